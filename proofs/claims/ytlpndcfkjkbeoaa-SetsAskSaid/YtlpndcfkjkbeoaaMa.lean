/- Part of a claim: own texts Den, merged by a program of this claim. -/
import Derived.OrdersHeld
import Derived.ScopeJumps
import Derived.Tactics
import Derived.Laws.AppendOwn
import Derived.ChangeKeysEq
import Derived.Laws.Entries
namespace Go.Pan
open Go

/-! A region that draws its order, under a condition on the world that is owed behind each operation but the last one. -/

section
variable {P : Program} {ops : Array Oper} {Q : Exit → Act → World → Prop} {S : World → Prop}

/-- has one of the operations for which others were taken first not come up yet? -/
def more (ms : List Nat) (l : Array Bool) : Bool := ms.any fun i => !l.getD i true

theorem more_spec {ms : List Nat} {l : Array Bool} : more ms l = true ↔ ∃ i, i ∈ ms ∧ l.getD i true = false := by
  simp only [more, List.any_eq_true]
  constructor <;> rintro ⟨i, h, hi⟩ <;> exact ⟨i, h, by simpa using hi⟩

theorem more_back {ms : List Nat} {l : Array Bool} {i : Nat} (h : more ms (l.setIfInBounds i true) = true) : more ms l = true := by
  obtain ⟨s, hs, hl⟩ := more_spec.1 h
  refine more_spec.2 ⟨s, hs, ?_⟩
  by_cases hi : i = s
  · subst hi
    simp only [Array.getD_eq_getD_getElem?, Array.getElem?_setIfInBounds] at hl
    split at hl
    · split at hl <;> simp at hl
    · simp_all
  · rwa [getD_set_ne true hi] at hl

def AnyG (P : Program) (ops : Array Oper) (ms : List Nat) (Q : Exit → Act → World → Prop) (S : World → Prop) : Nat → Array Bool → Act → World → Prop
  | 0, l, a, w => Region.ready .any ops l = [] ∧ Q .normal a w
  | f + 1, l, a, w =>
    (Region.ready .any ops l = [] → Q .normal a w) ∧
    ∀ i ∈ Region.ready .any ops l, wpOp P ops Q i (fun a' w' => (more ms (l.setIfInBounds i true) = true → S w') ∧ AnyG P ops ms Q S f (l.setIfInBounds i true) a' w') a w

theorem wpAny_of_G {ms : List Nat} : ∀ (f : Nat) (l : Array Bool) (a : Act) (w : World), AnyG P ops ms Q S f l a w → wpAny P .any ops Q f l a w
  | 0, _, _, _, h => h
  | f + 1, _, _, _, h => ⟨h.1, fun i hi => wpOp_mono (fun a' w' h' => wpAny_of_G f _ a' w' h'.2) (h.2 i hi)⟩

/-- operation s waits for operation i -/
def waits (ops : Array Oper) (s i : Nat) : Bool := ((ops[s]?).map (·.after.any fun e => Region.binds .any e && e.on == i)).getD false

theorem AnyG.first {ms : List Nat} {i s : Nat} {oi : Oper} {v : Value} (hsm : s ∈ ms) (hi : ops[i]? = some oi) (hsel : Region.noSelect ops = true) (hs : waits ops s i = true)
    (hQ : ∀ c a w, Q (.panic c) (a.put oi.dst v) w → Q (.panic c) a w) :
    ∀ (f : Nat) (l : Array Bool) (a : Act) (w : World),
      (∀ j oj, ops[j]? = some oj → j ≠ i → l.getD j true = false → (∀ e ∈ oj.after, Region.binds .any e = true → e.on ≠ i) → oi.apart ops oj = true) →
      l.getD s true = false →
      i ∈ Region.ready .any ops l → YieldsIf P ops S oi v a → S w →
      AnyG P ops ms Q S f (l.setIfInBounds i true) (a.put oi.dst v) w → AnyG P ops ms Q S (f + 1) l a w := by
  -- the operation that waits for i
  obtain ⟨os, hos, es, hes, hbs, hons⟩ : ∃ os, ops[s]? = some os ∧ ∃ e ∈ os.after, Region.binds .any e = true ∧ e.on = i := by
    unfold waits at hs
    cases h : ops[s]? with
    | none => simp [h] at hs
    | some os =>
      simp only [h, Option.map_some, Option.getD_some, Array.any_eq_true'] at hs
      obtain ⟨e, he, hb⟩ := hs
      simp only [Bool.and_eq_true, beq_iff_eq] at hb
      exact ⟨os, rfl, e, he, hb.1, hb.2⟩
  have unlisted : ∀ {l : Array Bool}, i ∈ Region.ready .any ops l → l.getD i false = false := by
    intro l hr
    have h0 := (mem_ready.1 hr).1
    rcases Nat.lt_or_ge i l.size with h' | h'
    · simp [h'] at h0 ⊢; exact h0
    · simp [Array.getElem?_eq_none h'] at h0
  have notready : ∀ {l : Array Bool}, i ∈ Region.ready .any ops l → s ∉ Region.ready .any ops l := by
    intro l hr hsr
    obtain ⟨_, os', hos', hall⟩ := mem_ready.1 hsr
    rw [hos] at hos'
    cases hos'
    have := hall es hes hbs
    rw [hons, unlisted hr] at this
    cases this
  intro f
  induction f with
  | zero =>
    intro l a w hfree hls hr hy hS H
    refine ⟨fun h => (by rw [h] at hr; cases hr), fun j hj => ?_⟩
    by_cases hji : j = i
    · subst hji; exact hy.wpOp hi hS ⟨fun _ => hS, H⟩
    · have := ready_mono hj hji
      rw [H.1] at this
      cases this
  | succ f ih =>
    intro l a w hfree hls hr hy hS H
    refine ⟨fun h => (by rw [h] at hr; cases hr), fun j hj => ?_⟩
    by_cases hji : j = i
    · subst hji; exact hy.wpOp hi hS ⟨fun _ => hS, H⟩
    · have h1 := H.2 j (ready_mono hj hji)
      obtain ⟨hjun, oj, hoj, hall⟩ := mem_ready.1 hj
      have hnot : ∀ e ∈ oj.after, Region.binds .any e = true → e.on ≠ i := fun e he hb heq => by
        have h1 := hall e he hb
        rw [heq, unlisted hr] at h1
        cases h1
      have hjs : j ≠ s := fun e => notready hr (e ▸ hj)
      have his : i ≠ s := fun e => notready hr (e ▸ hr)
      have hls2 : (l.setIfInBounds j true).getD s true = false := by rw [getD_set_ne true hjs]; exact hls
      have hmore : more ms ((l.setIfInBounds i true).setIfInBounds j true) = true :=
        more_spec.2 ⟨s, hsm, by rw [getD_set_ne true hjs, getD_set_ne true his]; exact hls⟩
      have h2 := wpOp_putIf hoj (hfree j oj hoj hji hjun hnot) (fun cs b => Region.noSelect_spec hsel i oi cs b hi) (fun cs b => Region.noSelect_spec hsel j oj cs b hoj) hQ hy h1
      have hfree' : ∀ k ok, ops[k]? = some ok → k ≠ i → (l.setIfInBounds j true).getD k true = false →
          (∀ e ∈ ok.after, Region.binds .any e = true → e.on ≠ i) → oi.apart ops ok = true := fun k ok hk hki hun hno => by
        refine hfree k ok hk hki ?_ hno
        by_cases hjk : j = k
        · subst hjk; exact hjun
        · rw [getD_set_ne true hjk] at hun; exact hun
      refine wpOp_mono (fun a' w' h3 => ?_) h2
      obtain ⟨h3a, h3b, h3c⟩ := h3
      have hS' := h3b hmore
      refine ⟨fun _ => hS', ih (l.setIfInBounds j true) a' w' hfree' hls2 (ready_mono hr (Ne.symm hji)) h3a hS' ?_⟩
      rw [Array.setIfInBounds_comm _ _ hji]
      exact h3c

theorem AnyG.take {ms : List Nat} {i s : Nat} {oi : Oper} {v : Value} {f : Nat} {l : Array Bool} {a : Act} {w : World} (hsm : s ∈ ms) (hi : ops[i]? = some oi)
    (hsel : Region.noSelect ops = true) (hs : waits ops s i = true) (hls : l.getD s true = false) (hf : Region.free .any ops l i = true)
    (hr : (Region.ready .any ops l).contains i = true)
    (hQ : ∀ c a w, Q (.panic c) (a.put oi.dst v) w → Q (.panic c) a w) (hy : YieldsIf P ops S oi v a) (hS : S w)
    (h : AnyG P ops ms Q S f (l.setIfInBounds i true) (a.put oi.dst v) w) : AnyG P ops ms Q S (f + 1) l a w :=
  AnyG.first hsm hi hsel hs hQ f l a w (Region.free_spec hi hf) hls (by simpa using hr) hy hS h

theorem AnyG.all {ms : List Nat} {rs : List Nat} {f : Nat} {l : Array Bool} {a : Act} {w : World} (hr : Region.ready .any ops l = rs) (hne : rs ≠ [])
    (h : ∀ i ∈ rs, wpOp P ops Q i (fun a' w' => (more ms (l.setIfInBounds i true) = true → S w') ∧ AnyG P ops ms Q S f (l.setIfInBounds i true) a' w') a w) :
    AnyG P ops ms Q S (f + 1) l a w :=
  ⟨fun h0 => absurd (hr ▸ h0) hne, hr ▸ h⟩

theorem AnyG.done {ms : List Nat} {l : Array Bool} {a : Act} {w : World} (hr : Region.ready .any ops l = []) (h : Q .normal a w) :
    ∀ f, AnyG P ops ms Q S f l a w
  | 0 => ⟨hr, h⟩
  | _ + 1 => ⟨fun _ => h, by rw [hr]; simp⟩

theorem wp_region_G {ms : List Nat} {id : Nat} {a : Act} {w : World} (hm : P.follows .mixedOrders = true)
    (h : AnyG P ops ms Q S ops.size (Array.replicate ops.size false) a { w with drawn := w.drawn + 1 }) : (Code.region id ops true).wp P Q a w :=
  wp_region_any hm (wpAny_of_G _ _ _ _ h)

end

/-! ## What is known of a type, as one compact datum -/

structure FI where
  off : Nat
  sz : Nat
  agg : Bool

inductive TK where
  | int (k : IntKind)
  | bool
  | str
  | ptr (esz : Nat)
  | slice (elem : TypeId) (esz : Nat)
  | array (n : Nat) (elem : TypeId) (esz : Nat)
  | struct (fs : List FI)
  | iface
  | other

structure TI where
  size : Nat
  bytes : Nat
  agg : Bool
  zero : List Value
  kind : TK

def szOf (P : Program) (t : TypeId) : Nat := ((P.info? t).map (·.size)).getD 0
def aggOf (P : Program) (t : TypeId) : Bool := match P.underlying t with | some (.struct _) | some (.array ..) => true | _ => false

def kindOf (P : Program) : TypeDesc → Option TK
  | .int k => some (.int k)
  | .bool => some .bool
  | .string => some .str
  | .pointer e => if (P.info? e).isSome then some (.ptr (szOf P e)) else none
  | .slice e => if (P.info? e).isSome then some (.slice e (szOf P e)) else none
  | .array n e => if (P.info? e).isSome then some (.array n e (szOf P e)) else none
  | .struct fs => if fs.toList.all (fun f => (P.info? f.type).isSome && (P.underlying f.type).isSome) then some (.struct (fs.toList.map fun f => ⟨f.offset, szOf P f.type, aggOf P f.type⟩)) else none
  | .interface _ => some .iface
  | _ => some .other

def tiOf (P : Program) (t : TypeId) : Option TI :=
  match P.info? t, P.underlying t with
  | some i, some d =>
    match i.zero, kindOf P d with
    | some z, some k => some { size := i.size, bytes := i.bytes, agg := aggOf P t, zero := z.cells.toList, kind := k }
    | _, _ => none
  | _, _ => none

def lk : List (Nat × TI) → Nat → Option TI
  | [], _ => none
  | (a, i) :: r, t => cond (Nat.beq a t) (some i) (lk r t)

theorem lk_ok {P : Program} : ∀ {L : List (Nat × TI)}, L.map (fun p => tiOf P p.1) = L.map (fun p => some p.2) → ∀ t i, lk L t = some i → tiOf P t = some i
  | [], _, t, i, h => by simp [lk] at h
  | (a, j) :: r, hL, t, i, h => by
    simp only [List.map_cons, List.cons.injEq] at hL
    simp only [lk] at h
    cases hb : Nat.beq a t with
    | true => rw [hb] at h; simp only [cond_true] at h; rw [← Nat.eq_of_beq_eq_true hb, ← h]; exact hL.1
    | false => rw [hb] at h; exact lk_ok hL.2 t i h

/-! ## Worlds -/

/-- nothing that was there has turned -/
def HExt (h h' : Array Obj) : Prop := h.size ≤ h'.size ∧ ∀ k, k < h.size → h'[k]? = h[k]?
def Ext (w w' : World) : Prop := HExt w.heap w'.heap ∧ w'.os = w.os ∧ w'.tape = w.tape ∧ w'.output = w.output
/-- one block has turned -/
def Upd (w w' : World) (b : Nat) (o : Obj) : Prop :=
  w'.heap.size = w.heap.size ∧ w'.heap[b]? = some o ∧ (∀ k, k ≠ b → w'.heap[k]? = w.heap[k]?) ∧ w'.os = w.os ∧ w'.tape = w.tape ∧ w'.output = w.output

def drw (w : World) : World := { w with drawn := w.drawn + 1 }

def cel (h : Array Obj) (a : Addr) : Option Value :=
  match h[a.block]? with
  | some (.cells c _ _) => if a.spot.isSome then none else c[a.off]?
  | _ => none

theorem cel_eq (w : World) (a : Addr) : w.cell? a = cel w.heap a := rfl

theorem HExt.refl (h : Array Obj) : HExt h h := ⟨Nat.le_refl _, fun _ _ => rfl⟩
theorem HExt.trans {a b c : Array Obj} (h : HExt a b) (k : HExt b c) : HExt a c :=
  ⟨Nat.le_trans h.1 k.1, fun i hi => (k.2 i (Nat.lt_of_lt_of_le hi h.1)).trans (h.2 i hi)⟩
theorem Ext.refl (w : World) : Ext w w := ⟨.refl _, rfl, rfl, rfl⟩
theorem Ext.trans {a b c : World} (h : Ext a b) (k : Ext b c) : Ext a c :=
  ⟨h.1.trans k.1, k.2.1.trans h.2.1, k.2.2.1.trans h.2.2.1, k.2.2.2.trans h.2.2.2⟩
theorem Ext.drw (w : World) : Ext w (drw w) := Ext.refl w

theorem HExt.blk {h h' : Array Obj} (x : HExt h h') {b : Nat} {o : Obj} (hb : h[b]? = some o) : h'[b]? = some o := by
  have : b < h.size := by
    rcases Nat.lt_or_ge b h.size with g | g
    · exact g
    · rw [Array.getElem?_eq_none g] at hb; cases hb
  rw [x.2 b this]; exact hb

theorem HExt.cel {h h' : Array Obj} (x : HExt h h') {a : Addr} {v : Value} (hc : Pan.cel h a = some v) : Pan.cel h' a = some v := by
  unfold Pan.cel at *
  cases hb : h[a.block]? with
  | none => rw [hb] at hc; simp at hc
  | some o => rw [hb] at hc; rw [x.blk hb]; exact hc

theorem lt_of_blk {h : Array Obj} {b : Nat} {o : Obj} (hb : h[b]? = some o) : b < h.size := by
  rcases Nat.lt_or_ge b h.size with g | g
  · exact g
  · rw [Array.getElem?_eq_none g] at hb; cases hb

theorem lt_of_cel {h : Array Obj} {a : Addr} {v : Value} (hc : cel h a = some v) : a.block < h.size := by
  unfold cel at hc
  cases hb : h[a.block]? with
  | none => rw [hb] at hc; simp at hc
  | some o => exact lt_of_blk hb

theorem Ext.of_push (w : World) (o : Obj) : Ext w { w with heap := w.heap.push o } :=
  ⟨⟨by simp, fun k hk => by simp only [Array.getElem?_push]; rw [if_neg (by omega)]⟩, rfl, rfl, rfl⟩

/-- behind a write to one of the call's own blocks -/
theorem Ext.upd {w0 w w' : World} {b : Nat} {o : Obj} (h : Ext w0 w) (hb : w0.heap.size ≤ b) (u : Upd w w' b o) : Ext w0 w' :=
  ⟨⟨by rw [u.1]; exact h.1.1, fun k hk => (u.2.2.1 k (by omega)).trans (h.1.2 k hk)⟩, u.2.2.2.1.trans h.2.1, u.2.2.2.2.1.trans h.2.2.1, u.2.2.2.2.2.trans h.2.2.2⟩

/-! ## Frames -/

abbrev Env := Nat → Value
def upd (e : Env) (d : Nat) (v : Value) : Env := fun i => cond (Nat.beq i d) v (e i)
def put (e : Env) : Option Nat → Value → Env
  | some d, v => upd e d v
  | none, _ => e
def ev (e : Env) : Operand → Value
  | .tmp t => e t
  | .const v => v
  | .global g => .pointer (some ⟨g, 0, none⟩)
  | .func f => .func (.func f) #[] #[]
def env0 (args : List Value) : Env := fun i => args.getD i undef

structure Rep (n : Nat) (a : Act) (e : Env) : Prop where
  size : a.tmps.size = n
  nod : a.defers = []
  at_ : ∀ i, a.tmps.getD i undef = e i

theorem Rep.ev {n : Nat} {a : Act} {e : Env} (r : Rep n a e) : a.eval = Pan.ev e := by
  funext x
  cases x with
  | tmp t => exact r.at_ t
  | const v => rfl
  | global g => rfl
  | func f => rfl

theorem Rep.put {n : Nat} {a : Act} {e : Env} (r : Rep n a e) (d : Option Nat) (v : Value) (hd : ∀ i, d = some i → i < n) : Rep n (a.put d v) (put e d v) := by
  cases d with
  | none => exact r
  | some d =>
    have hd := hd d rfl
    refine ⟨by simp [Act.put, r.size], r.nod, fun i => ?_⟩
    simp only [Act.put, Pan.put, upd]
    by_cases h : i = d
    · subst h
      rw [show Nat.beq i i = true from Nat.beq_refl i]
      simp [r.size, hd]
    · have hb : Nat.beq i d = false := by
        cases hb : Nat.beq i d with
        | true => exact absurd (Nat.eq_of_beq_eq_true hb) h
        | false => rfl
      rw [hb]
      simp only [cond_false, ← r.at_ i]
      simp only [Array.getD_eq_getD_getElem?, Array.getElem?_setIfInBounds]
      rw [if_neg (fun e => h e.symm)]

/-! ## What an operation asks, and leaves -/

/-- the cells from an address on -/
def celsAt (h : Array Obj) (a : Addr) (cs : List Value) : Prop := ∀ j v, cs[j]? = some v → cel h (a.add j) = some v

/-- v is the value of a variable at an address -/
def LdK (i : TI) (a : Addr) (w : World) (K : Value → Prop) : Prop :=
  cond i.agg (∃ cs : List Value, cs.length = i.size ∧ celsAt w.heap a cs ∧ K (.agg cs.toArray)) (∃ v, cel w.heap a = some v ∧ K v)

/-- a number, by whatever name -/
inductive nmK (k : IntKind) (x : Int) (K : Value → Prop) : Prop where
  | mk (v : Int) (h : x = v) (hk : K (.int k v))
/-- a test: both ways -/
structure tsK (p : Prop) (K : Bool → Prop) : Prop where
  t : p → K true
  f : ¬ p → K false

/-- the sum, difference .. of two integers -/
def arK (op : BinOp) (k : IntKind) (a b : Int) (K : Value → Prop) : Prop :=
  match op with
  | .add => nmK k (k.wrap (a + b)) K
  | .sub => nmK k (k.wrap (a - b)) K
  | .mul => nmK k (k.wrap (a * b)) K
  | .quo => b ≠ 0 ∧ nmK k (k.wrap (a.tdiv b)) K
  | .rem => b ≠ 0 ∧ nmK k (a.tmod b) K
  | .and => nmK k (k.wrap (BitVec.ofInt k.bits a &&& BitVec.ofInt k.bits b).toNat) K
  | .or => nmK k (k.wrap (BitVec.ofInt k.bits a ||| BitVec.ofInt k.bits b).toNat) K
  | .xor => nmK k (k.wrap (BitVec.ofInt k.bits a ^^^ BitVec.ofInt k.bits b).toNat) K
  | .andNot => nmK k (k.wrap (BitVec.ofInt k.bits a &&& ~~~BitVec.ofInt k.bits b).toNat) K
  | .eql => tsK (a = b) fun t => K (.bool t)
  | .neq => tsK (a = b) fun t => K (.bool (!t))
  | .lss => tsK (a < b) fun t => K (.bool t)
  | .leq => tsK (a ≤ b) fun t => K (.bool t)
  | .gtr => tsK (b < a) fun t => K (.bool t)
  | .geq => tsK (b ≤ a) fun t => K (.bool t)
  | _ => False

def noFrz (h : Array Obj) (b : Nat) : Prop := ∃ cs t, h[b]? = some (.cells cs t (0, 0))

/-- are two values the same? -/
def eqK (i : TI) (x y : Value) (w : World) (K : Bool → Prop) : Prop :=
  match i.kind, x, y with
  | .ptr _, .pointer none, .pointer b => K b.isNone
  | .ptr _, .pointer (some _), .pointer none => K false
  | .ptr n, .pointer (some a), .pointer (some b) => n ≠ 0 ∧ noFrz w.heap a.block ∧ noFrz w.heap b.block ∧ tsK (a = b) K
  | .bool, .bool a, .bool b => tsK (a = b) K
  | .slice _ _, .slice none _ _, .slice b _ _ => K b.isNone
  | .slice _ _, .slice (some _) _ _, .slice none _ _ => K false
  | _, _, _ => False

def binK (tt : Nat → Option TI) (op : BinOp) (t : TypeId) (x y : Value) (w : World) (K : Value → Prop) : Prop :=
  match x, y with
  | .int k a, .int k' b =>
    match op with
    | .shl => 0 ≤ b ∧ nmK k (k.wrap (a * 2 ^ (min b.toNat k.bits))) K
    | .shr => 0 ≤ b ∧ nmK k (a.fdiv (2 ^ (min b.toNat k.bits))) K
    | op => if k = k' then arK op k a b K else False
  | x, y =>
    match op, tt t with
    | .eql, some i => eqK i x y w fun b => K (.bool b)
    | .neq, some i => eqK i x y w fun b => K (.bool (!b))
    | _, _ => False

/-- the bounds of a slice of a slice -/
def slLo (esz : Nat) (base : Option Addr) (lo : Option Value) (h m : Nat) (K : Value → Prop) : Prop :=
  match lo with
  | some (.int _ l) => 0 ≤ l ∧ l ≤ (h : Int) ∧ ∃ v, (.slice (if m = l.toNat then base else base.map (·.add (l.toNat * esz))) (h - l.toNat) (m - l.toNat)) = v ∧ K v
  | none => ∃ v, (.slice (if m = 0 then base else base.map (·.add (0 * esz))) (h - 0) (m - 0)) = v ∧ K v
  | _ => False

def slK (esz : Nat) (base : Option Addr) (len cap : Nat) (lo hi mx : Option Value) (K : Value → Prop) : Prop :=
  match mx, hi with
  | none, some (.int _ h) => 0 ≤ h ∧ h ≤ (cap : Int) ∧ slLo esz base lo h.toNat cap K
  | none, none => slLo esz base lo len cap K
  | some (.int _ m), some (.int _ h) => 0 ≤ m ∧ m ≤ (cap : Int) ∧ 0 ≤ h ∧ h ≤ m ∧ slLo esz base lo h.toNat m.toNat K
  | _, _ => False

/-- the cells with some of them written over -/
def setL (l : List Value) (off : Nat) (cs : List Value) : List Value := l.take off ++ cs ++ l.drop (off + cs.length)

def fillL (place : Nat → Option (Nat × Nat)) : List Value → List (Nat × Value) → Option (List Value)
  | cells, [] => some cells
  | cells, (i, v) :: rest =>
    match place i with
    | none => none
    | some (off, sz) => cond (Nat.beq v.cells.toList.length sz && Nat.ble (off + v.cells.toList.length) cells.length) (fillL place (setL cells off v.cells.toList) rest) none

/-- an element's place -/
inductive IxK (a : Addr) (n : Int) (len esz : Nat) (K : Value → Prop) : Prop where
  | mk (p : Addr) (h0 : 0 ≤ n) (h1 : n < len) (hp : a.add (n.toNat * esz) = p) (hk : K (.pointer (some p)))

/-- operations that only read: what each asks, and its value -/
def rdK (tt : Nat → Option TI) (op : Op) (ρ : Operand → Value) (w : World) (K : Value → Prop) : Prop :=
  match op with
  | .move x | .assign x => K (ρ x)
  | .pick c a b => (match ρ c with | .bool t => K (cond t (ρ a) (ρ b)) | _ => False)
  | .binOp op t x y _ => binK tt op t (ρ x) (ρ y) w K
  | .unOp .not _ x => (match ρ x with | .bool b => K (.bool !b) | _ => False)
  | .unOp .neg _ x => (match ρ x with | .int k n => nmK k (k.wrap (0 - n)) K | _ => False)
  | .unOp .xor _ x => (match ρ x with | .int k n => nmK k (k.wrap (BitVec.ofInt k.bits (if k.signed then -1 else k.max) ^^^ BitVec.ofInt k.bits n).toNat) K | _ => False)
  | .convert s d x => (match tt s, tt d, ρ x with | some _, some ⟨_, _, _, _, .int k⟩, .int _ n => nmK k (k.wrap n) K | _, _, _ => False)
  | .nilCheck x => (match ρ x with | .pointer (some a) => K (.pointer (some a)) | .func (.func f) p q => K (.func (.func f) p q) | _ => False)
  | .fieldAddr s x f => (match tt s, ρ x with
      | some ⟨_, _, _, _, .struct fs⟩, .pointer (some a) => (match fs[f]? with | some i => i.sz ≠ 0 ∧ K (.pointer (some (a.add i.off))) | none => False)
      | _, _ => False)
  | .field s x f => (match tt s, ρ x with
      | some ⟨_, _, _, _, .struct fs⟩, .agg cs => (match fs[f]? with
        | some i => cond i.agg (K (.agg ((cs.toList.drop i.off).take i.sz).toArray)) (match cs.toList[i.off]? with | some v => K v | none => False)
        | none => False)
      | _, _ => False)
  | .load t x => (match tt t, ρ x with | some i, .pointer (some a) => LdK i a w K | _, _ => False)
  | .indexAddr t x i => (match tt t, ρ x, ρ i with
      | some ⟨_, _, _, _, .slice _ esz⟩, .slice (some a) len _, .int _ n => IxK a n len esz K
      | some ⟨_, _, _, _, .array len _ esz⟩, .pointer (some a), .int _ n => IxK a n len esz K
      | _, _, _ => False)
  | .slice t x lo hi mx => (match tt t, ρ x with
      | some ⟨_, _, _, _, .slice _ esz⟩, .slice base len cap => slK esz base len cap (lo.map ρ) (hi.map ρ) (mx.map ρ) K
      | _, _ => False)
  | .makeInterface t x => (match tt t with | some ⟨_, _, _, _, .iface⟩ => False | some _ => K (.iface t (ρ x)) | none => False)
  | .makeFunc fn first captured => K (.func fn (first.toList.map ρ).toArray (captured.toList.map ρ).toArray)
  | .extract x i => (match ρ x with | .tuple vs => (match vs.toList[i]? with | some v => K v | none => False) | _ => False)
  | .build t parts => (match tt t with
      | some ⟨_, _, _, zero, .struct fs⟩ => (match fillL (fun i => (fs[i]?).map fun f => (f.off, f.sz)) zero (parts.toList.map fun p => (p.1, ρ p.2)) with | some cs => K (.agg cs.toArray) | none => False)
      | some ⟨_, _, _, zero, .array _ _ esz⟩ => (match fillL (fun i => some (i * esz, esz)) zero (parts.toList.map fun p => (p.1, ρ p.2)) with | some cs => K (.agg cs.toArray) | none => False)
      | _ => False)
  | .call { callee := .builtin .len, args, argTypes } => (match argTypes.toList, args.toList.map ρ with
      | [t], [x] => (match tt t, x with
        | some ⟨_, _, _, _, .slice _ _⟩, .slice _ n _ => K (.int .i64 n)
        | some ⟨_, _, _, _, .str⟩, .string s => K (.int .i64 s.size)
        | _, _ => False)
      | _, _ => False)
  | .call { callee := .builtin .min, args, .. } => (match args.toList.map ρ with
      | [.int k a, .int _ b] => nmK k (if b < a then b else a) K
      | _ => False)
  | .call { callee := .builtin .max, args, .. } => (match args.toList.map ρ with
      | [.int k a, .int _ b] => nmK k (if a < b then b else a) K
      | _ => False)
  | _ => False

/-- the value of one cell -/
def flat : Value → Bool
  | .agg _ | .tuple _ => false
  | _ => true

/-- what is called, and runs -/
def callable (P : Program) (f : FuncId) : Bool := match P.funcs[f]? with | some fn => !(fn.name == "runtime.NumGoroutine") && fn.body.isSome | none => false

structure CallK (P : Program) (f : FuncId) (args : List Value) (K : Value → World → Prop) (w : World) : Prop where
  run : (callable P f = true ∧ Calls P f args.toArray w fun e w' => ∃ v, e = .returned v ∧ K v w') ∨ ∃ v w', (callFunc f args.toArray).run P w = .ok (.value v) w' ∧ K v w'

/-- a new block -/
structure AlK (cs : List Value) (t : TypeId) (K : Nat → World → Prop) (w : World) : Prop where
  run : ∀ b w', b = w.heap.size → Ext w w' → w'.heap.size = b + 1 → w'.heap[b]? = some (.cells cs.toArray t (0, 0)) → K b w'

/-- a store -/
inductive StK (sz : Nat) (a : Addr) (cs : List Value) (K : World → Prop) (w : World) : Prop where
  | mk (cs0 : List Value) (t : TypeId) (hb : w.heap[a.block]? = some (.cells (List.toArray cs0) t (0, 0))) (hs : a.spot = none) (hn : cs.length = sz) (hfit : Nat.ble (a.off + cs.length) cs0.length = true)
      (hf : (cs.all flat) = true) (hk : ∀ w', Upd w w' a.block (.cells (setL cs0 a.off cs).toArray t (0, 0)) → K w')

/-- whatever else -/
def genP (P : Program) (K : Value → World → Prop) : Result Next → Prop
  | .ok (.value v) w' => K v w'
  | .ok .skip w' => K undef w'
  | .ok (.enter f args) w' => Calls P f args w' fun e w'' => ∃ v, e = .returned v ∧ K v w''
  | _ => False
structure GenK (P : Program) (o : Oper) (ρ : Operand → Value) (K : Value → World → Prop) (w : World) : Prop where
  run : genP P K ((execOp ρ o).run P w)

def idxK (P : Program) (tt : Nat → Option TI) (o : Oper) (ρ : Operand → Value) (t : TypeId) (x i : Value) (K : Value → World → Prop) (w : World) : Prop :=
  match tt t, x, i with
  | some ⟨_, _, _, _, .str⟩, .string s, .int _ n => 0 ≤ n ∧ ∃ c, s.data.toList[n.toNat]? = some c ∧ nmK .u8 (c.toNat : Int) fun v => K v w
  | _, _, _ => GenK P o ρ K w

def opK (P : Program) (tt : Nat → Option TI) (o : Oper) (ρ : Operand → Value) (K : Value → World → Prop) (w : World) : Prop :=
  match o.op with
  | .alloc t => (match tt t with | some i => AlK i.zero t (fun b w' => K (.pointer (some ⟨b, 0, none⟩)) w') w | none => False)
  | .box t x => AlK (ρ x).cells.toList t (fun b w' => K (.pointer (some ⟨b, 0, none⟩)) w') w
  | .buildSlice t len parts => (match tt t with
      | some ⟨_, _, _, _, .slice e esz⟩ => (match tt e with
        | some ⟨_, _, _, zero, _⟩ => Nat.ble (len * esz) 16777216 = true ∧ zero.length = esz ∧ esz ≠ 0 ∧ (match fillL (fun i => some (i * esz, esz)) (List.replicate len zero).flatten (parts.toList.map fun p => (p.1, ρ p.2)) with
          | some cs => AlK cs e (fun b w' => K (.slice (some ⟨b, 0, none⟩) len len) w') w
          | none => False)
        | none => False)
      | _ => False)
  | .store t x y => (match tt t, ρ x with | some i, .pointer (some a) => StK i.size a (ρ y).cells.toList (K undef) w | _, _ => False)
  | .call { callee := .value f, args, .. } => (match ρ f with
      | .func (.func g) first cap => CallK P g (first.toList ++ args.toList.map ρ ++ cap.toList) K w
      | _ => False)
  | .call { callee := .builtin .append, .. } | .call { callee := .builtin .copy, .. } | .call { callee := .builtin .clear, .. } | .call { callee := .builtin .cap, .. } | .call { callee := .builtin .delete, .. } | .call { callee := .invoke .., .. }
  | .makeSlice .. | .makeMap .. | .lookup .. | .mapUpdate .. | .insert .. | .mapEntry .. | .entryStore .. | .range .. | .next .. | .entry .. | .typeAssert .. | .sliceToArrayPointer .. => GenK P o ρ K w
  | .index t x i => idxK P tt o ρ t (ρ x) (ρ i) K w
  | op => rdK tt op ρ w fun v => K v w


/-! ## What each operation asks is enough -/

structure TiOk (P : Program) (t : TypeId) (i : TI) (inf : TypeInfo) (d : TypeDesc) (z : Value) : Prop where
  info : P.info? t = some inf
  und : P.underlying t = some d
  zero : inf.zero = some z
  kind : kindOf P d = some i.kind
  size : inf.size = i.size
  bytes : inf.bytes = i.bytes
  agg : aggOf P t = i.agg
  zcells : z.cells.toList = i.zero

theorem tiOf_spec {P : Program} {t : TypeId} {i : TI} (h : tiOf P t = some i) : ∃ inf d z, TiOk P t i inf d z := by
  unfold tiOf at h
  split at h
  · rename_i inf d h1 h2
    split at h
    · rename_i z k h3 h4
      simp only [Option.some.injEq] at h
      subst h
      exact ⟨inf, d, z, h1, h2, h3, h4, rfl, rfl, rfl, rfl⟩
    · cases h
  · cases h

theorem kind_int {P : Program} {d : TypeDesc} {k : IntKind} (h : kindOf P d = some (.int k)) : d = .int k := by
  cases d <;> simp [kindOf] at h
  · rw [h]
theorem kind_slice {P : Program} {d : TypeDesc} {e : TypeId} {n : Nat} (h : kindOf P d = some (.slice e n)) : d = .slice e ∧ szOf P e = n ∧ (P.info? e).isSome = true := by
  cases d <;> simp [kindOf] at h
  · obtain ⟨h1, h2, h3⟩ := h; subst h2; exact ⟨rfl, h3, h1⟩
theorem kind_array {P : Program} {d : TypeDesc} {e : TypeId} {m n : Nat} (h : kindOf P d = some (.array m e n)) : d = .array m e ∧ szOf P e = n ∧ (P.info? e).isSome = true := by
  cases d <;> simp [kindOf] at h
  · obtain ⟨h1, h2, h3, h4⟩ := h; subst h2; subst h3; exact ⟨rfl, h4, h1⟩
theorem kind_ptr {P : Program} {d : TypeDesc} {n : Nat} (h : kindOf P d = some (.ptr n)) : ∃ e, d = .pointer e ∧ szOf P e = n ∧ (P.info? e).isSome = true := by
  cases d <;> simp [kindOf] at h
  · exact ⟨_, rfl, h.2, h.1⟩
theorem kind_bool {P : Program} {d : TypeDesc} (h : kindOf P d = some .bool) : d = .bool := by
  cases d <;> simp [kindOf] at h <;> rfl
theorem kind_str {P : Program} {d : TypeDesc} (h : kindOf P d = some .str) : d = .string := by
  cases d <;> simp [kindOf] at h <;> rfl
theorem kind_struct {P : Program} {d : TypeDesc} {fs : List FI} (h : kindOf P d = some (.struct fs)) :
    ∃ gs, d = .struct gs ∧ (∀ g ∈ gs.toList, (P.info? g.type).isSome = true ∧ (P.underlying g.type).isSome = true) ∧ gs.toList.map (fun f => (⟨f.offset, szOf P f.type, aggOf P f.type⟩ : FI)) = fs := by
  cases d with
  | struct gs =>
    by_cases hall : gs.toList.all (fun f => (P.info? f.type).isSome && (P.underlying f.type).isSome) = true
    · have h' : some (TK.struct (gs.toList.map fun f => (⟨f.offset, szOf P f.type, aggOf P f.type⟩ : FI))) = some (TK.struct fs) := by
        rw [← h]; simp only [kindOf]; rw [if_pos hall]
      simp only [Option.some.injEq, TK.struct.injEq] at h'
      refine ⟨gs, rfl, fun g hg => ?_, h'⟩
      have := List.all_eq_true.1 hall g hg
      simpa using this
    · have h' : (none : Option TK) = some (TK.struct fs) := by rw [← h]; simp only [kindOf]; rw [if_neg hall]
      cases h'
  | _ => simp [kindOf] at h

theorem kind_not_iface {P : Program} {d : TypeDesc} {k : TK} (h : kindOf P d = some k) (hk : k ≠ .iface) : ∀ ms, d ≠ .interface ms := by
  rintro ms rfl
  simp only [kindOf, Option.some.injEq] at h
  exact hk h.symm

section
variable {P : Program} (w : World)

theorem run_ti {t : TypeId} {inf : TypeInfo} (h : P.info? t = some inf) : (typeInfo t).run P w = .ok inf w := by simp [typeInfo, h]
theorem run_und {t : TypeId} {d : TypeDesc} (h : P.underlying t = some d) : (underlying t).run P w = .ok d w := by simp [underlying, h]
theorem run_sz {t : TypeId} (h : (P.info? t).isSome = true) : (sizeOf t).run P w = .ok (szOf P t) w := by
  obtain ⟨i, hi⟩ := Option.isSome_iff_exists.1 h
  simp [sizeOf, run_ti w hi, szOf, hi]
theorem run_agg {t : TypeId} {d : TypeDesc} (h : P.underlying t = some d) : (isAgg t).run P w = .ok (aggOf P t) w := by
  unfold isAgg aggOf
  simp only [Sem.run_bind, run_und w h, Result.andThen_ok, h]
  cases d <;> rfl
theorem run_zero {t : TypeId} {i : TypeInfo} {z : Value} (h : P.info? t = some i) (hz : i.zero = some z) : (zeroValue t).run P w = .ok z w := by
  simp [zeroValue, run_ti w h, hz]

end

theorem run_loadVar_of {P : Program} {t : TypeId} {i : TI} (ht : tiOf P t = some i) {a : Addr} {w0 : World} {K : Value → Prop} (h : LdK i a w0 K) :
    ∃ v, (∀ w, Ext w0 w → (loadVar t a).run P w = .ok v w) ∧ K v := by
  obtain ⟨inf, d, z, ok⟩ := tiOf_spec ht
  unfold LdK at h
  cases hg : i.agg with
  | true =>
    rw [hg] at h
    obtain ⟨cs, hl, hc, hK⟩ := h
    refine ⟨_, fun w hx => ?_, hK⟩
    have hs : (P.info? t).isSome = true := by rw [ok.info]; rfl
    have hsz : szOf P t = cs.length := by unfold szOf; rw [ok.info]; simp [ok.size, hl]
    have := run_loadCells_list (P := P) w a cs (fun j v hj => by rw [cel_eq]; exact hx.1.cel (hc j v hj))
    simp [loadVar, run_agg w ok.und, ok.agg, hg, run_sz w hs, hsz, this]
  | false =>
    rw [hg] at h
    obtain ⟨v, hc, hK⟩ := h
    refine ⟨v, fun w hx => ?_, hK⟩
    have : w.cell? a = some v := by rw [cel_eq]; exact hx.1.cel hc
    simp [loadVar, run_agg w ok.und, ok.agg, hg, this]

theorem run_sliceBound {P : Program} {w : World} {k : IntKind} {n : Int} {y : Nat} {c : BoundsCode} (h0 : 0 ≤ n) (h1 : n ≤ y) : (Instr.sliceBound (.int k n) y c).run P w = .ok n.toNat w := by
  simp [Instr.sliceBound, asIntOf, h0, h1]

theorem run_slice_lo {P : Program} {t e : TypeId} (ht : P.underlying t = some (.slice e)) (he : (P.info? e).isSome = true) {base : Option Addr} {len cap : Nat} {lo hi mx : Option Value} {K : Value → Prop} {h m : Nat}
    (hb : ∀ w, (Instr.sliceBounds true len cap lo hi mx).run P w = ((match lo with | some v => Instr.sliceBound v h (if mx.isSome then .slice3C else .sliceB) | none => pure 0 : Sem Nat).run P w).andThen fun l w => .ok (l, h, m) w)
    (hK : slLo (szOf P e) base lo h m K) : ∃ v, (∀ w, (Instr.sliceAt t (.slice base len cap) lo hi mx).run P w = .ok v w) ∧ K v := by
  cases lo with
  | none =>
    obtain ⟨v, hv, hK⟩ := hK
    refine ⟨v, fun w => ?_, hK⟩
    rw [← hv]
    simp [Instr.sliceAt, Instr.slice, run_und w ht, hb, run_sz w he]
  | some v =>
    cases v <;> simp only [slLo] at hK
    rename_i k l
    obtain ⟨h0, h1, v, hv, hK⟩ := hK
    refine ⟨v, fun w => ?_, hK⟩
    rw [← hv]
    simp [Instr.sliceAt, Instr.slice, run_und w ht, hb, run_sz w he, run_sliceBound h0 h1]

theorem run_slice_of {P : Program} {t e : TypeId} (ht : P.underlying t = some (.slice e)) (he : (P.info? e).isSome = true) {base : Option Addr} {len cap : Nat} {lo hi mx : Option Value} {K : Value → Prop}
    (h : slK (szOf P e) base len cap lo hi mx K) : ∃ v, (∀ w, (Instr.sliceAt t (.slice base len cap) lo hi mx).run P w = .ok v w) ∧ K v := by
  cases mx with
  | none =>
    cases hi with
    | none => exact run_slice_lo ht he (fun w => by cases lo <;> simp [Instr.sliceBounds]) h
    | some v =>
      cases v <;> simp only [slK] at h
      obtain ⟨h0, h1, h⟩ := h
      exact run_slice_lo ht he (fun w => by cases lo <;> simp [Instr.sliceBounds, run_sliceBound h0 h1]) h
  | some u =>
    cases u <;> try (simp only [slK] at h; done)
    · cases hi with
      | none => simp only [slK] at h
      | some v =>
        cases v <;> simp only [slK] at h
        rename_i k m k' hh
        obtain ⟨h0, h1, h2, h3, h⟩ := h
        have h3' : hh ≤ ((m.toNat : Nat) : Int) := by omega
        exact run_slice_lo ht he (fun w => by cases lo <;> simp [Instr.sliceBounds, run_sliceBound h0 h1, run_sliceBound h2 h3']) h


theorem run_mapM_list {P : Program} {α β : Type} (f : α → Sem β) (r : α → β) : ∀ (l : List α) (w : World), (∀ a ∈ l, ∀ w, (f a).run P w = .ok (r a) w) → (l.mapM f).run P w = .ok (l.map r) w
  | [], w, _ => by simp
  | a :: l, w, h => by
    simp [List.mapM_cons, h a (by simp), run_mapM_list f r l w (fun b hb => h b (by simp [hb]))]

theorem run_mapM_arr {P : Program} {α β : Type} (f : α → Sem β) (r : α → β) (l : Array α) (w : World) (h : ∀ a ∈ l.toList, ∀ w, (f a).run P w = .ok (r a) w) : (l.mapM f).run P w = .ok (l.map r) w := by
  rw [Array.mapM_eq_mapM_toList]
  simp only [Sem.run_map, run_mapM_list f r l.toList w h, Result.andThen_ok]
  rw [← Array.toList_map, Array.toArray_toList]

theorem setL_length (l : List Value) (off : Nat) (cs : List Value) (h : off + cs.length ≤ l.length) : (setL l off cs).length = l.length := by
  simp [setL]; omega

theorem foldl_set : ∀ (vs : List Value) (k off : Nat) (cs : List Value), off + k + vs.length ≤ cs.length →
    ((vs.zipIdx k).foldl (fun (cs : Array Value) p => cs.setIfInBounds (off + p.2) p.1) cs.toArray) = (setL cs (off + k) vs).toArray
  | [], k, off, cs, _ => by simp [setL]
  | v :: vs, k, off, cs, h => by
    simp only [List.zipIdx_cons, List.foldl_cons, List.length_cons] at h ⊢
    rw [List.setIfInBounds_toArray, foldl_set vs (k + 1) off (cs.set (off + k) v) (by simp; omega)]
    congr 1
    have := list_seg_step cs (off + k) v vs (by omega)
    simp only [setL, List.length_cons]
    rw [← Nat.add_assoc off k 1]
    exact this

theorem fill_eq (place : Nat → Option (Nat × Nat)) : ∀ (parts : List (Nat × Value)) (cells r : List Value), fillL place cells parts = some r → Instr.fill place cells.toArray parts = some r.toArray
  | [], cells, r, h => by simp only [fillL, Option.some.injEq] at h; simp [Instr.fill, h]
  | (i, v) :: rest, cells, r, h => by
    simp only [fillL] at h
    simp only [Instr.fill]
    cases hp : place i with
    | none => rw [hp] at h; cases h
    | some q =>
      obtain ⟨off, sz⟩ := q
      rw [hp] at h
      simp only at h ⊢
      cases hb : (Nat.beq v.cells.toList.length sz && Nat.ble (off + v.cells.toList.length) cells.length) with
      | false => rw [hb] at h; cases h
      | true =>
        rw [hb] at h
        simp only [cond_true] at h
        simp only [Bool.and_eq_true, Array.length_toList] at hb
        have h1 := Nat.eq_of_beq_eq_true hb.1
        have h2 := Nat.le_of_ble_eq_true hb.2
        rw [if_neg (by simp; omega)]
        rw [← Array.foldl_toList, Array.toList_zipIdx]
        have := foldl_set v.cells.toList 0 off cells (by simp; omega)
        simp only [Nat.add_zero] at this
        rw [this]
        exact fill_eq place rest _ r h

theorem run_equal_ptr {P : Program} {w : World} {t e : TypeId} (ht : P.underlying t = some (.pointer e)) (he : (P.info? e).isSome = true) (hs : szOf P e ≠ 0) {a b : Addr} (ha : noFrz w.heap a.block) (hb : noFrz w.heap b.block) (d : Nat) :
    (Op.equalIn (d + 1) t (.pointer (some a)) (.pointer (some b))).run P w = .ok (a == b) w := by
  obtain ⟨ca, ta, ha⟩ := ha
  obtain ⟨cb, tb, hb⟩ := hb
  have fa : w.frozen? a = false := by simp [World.frozen?, ha]
  have fa2 : ∀ n, w.frozen? { block := a.block, off := n } = false := fun n => by simp [World.frozen?, ha]
  have fb2 : ∀ n, w.frozen? { block := b.block, off := n } = false := fun n => by simp [World.frozen?, hb]
  have fb : w.frozen? b = false := by simp [World.frozen?, hb]
  have sa : w.shape? a.block = some (ta, ca.size) := by simp [World.shape?, ha]
  have sb : w.shape? b.block = some (tb, cb.size) := by simp [World.shape?, hb]
  simp only [Op.equalIn, Sem.run_bind, run_und w ht, Result.andThen_ok, run_sz w he, ne_eq, hs, not_false_eq_true, if_true]
  by_cases hab : a.block = b.block
  · simp [sameAddr, hab]
  · have hne : (a == b) = false := by simp; exact fun e => hab (by rw [e])
    simp [sameAddr, hab, fa, fb, noView, viewAt, sa, sb, mayBeOne, stringish, fa2, fb2, hne]

def plainEq : Value → Bool
  | .nilIface | .agg _ => false
  | _ => true

theorem run_eqGuard {P : Program} (op : BinOp) (t : TypeId) (ox oy : Operand) {x : Value} (y : Value) (hx : plainEq x = true) (w : World) : (eqGuard op t ox oy x y).run P w = .ok () w := by
  unfold eqGuard
  cases op <;> first | rfl | (cases x <;> first | (simp [plainEq] at hx; done) | rfl)

theorem eqIn_nil {P : Program} {t e : TypeId} (ht : P.underlying t = some (.pointer e)) (b : Option Addr) (d : Nat) (w : World) : (Op.equalIn (d + 1) t (.pointer none) (.pointer b)).run P w = .ok b.isNone w := by
  simp [Op.equalIn, run_und w ht]
theorem eqIn_some_nil {P : Program} {t e : TypeId} (ht : P.underlying t = some (.pointer e)) (a : Addr) (d : Nat) (w : World) : (Op.equalIn (d + 1) t (.pointer (some a)) (.pointer none)).run P w = .ok false w := by
  simp [Op.equalIn, run_und w ht]
theorem eqIn_slice_nil {P : Program} {t e : TypeId} (ht : P.underlying t = some (.slice e)) (b : Option Addr) (n c n' c' : Nat) (d : Nat) (w : World) : (Op.equalIn (d + 1) t (.slice none n c) (.slice b n' c')).run P w = .ok b.isNone w := by
  simp [Op.equalIn, run_und w ht]
theorem eqIn_slice_some {P : Program} {t e : TypeId} (ht : P.underlying t = some (.slice e)) (a : Addr) (n c n' c' : Nat) (d : Nat) (w : World) : (Op.equalIn (d + 1) t (.slice (some a) n c) (.slice none n' c')).run P w = .ok false w := by
  simp [Op.equalIn, run_und w ht]
theorem eqIn_bool {P : Program} {t : TypeId} (ht : P.underlying t = some .bool) (a b : Bool) (d : Nat) (w : World) : (Op.equalIn (d + 1) t (.bool a) (.bool b)).run P w = .ok (a == b) w := by
  simp [Op.equalIn, run_und w ht]

theorem tsK_eq {α : Type} [DecidableEq α] {a b : α} {K : Bool → Prop} (h : tsK (a = b) K) : K (a == b) := by
  by_cases e : a = b
  · rw [show (a == b) = true from by simpa using e]; exact h.1 e
  · rw [show (a == b) = false from by simpa using e]; exact h.2 e
theorem tsK_dec {p : Prop} [Decidable p] {K : Bool → Prop} (h : tsK p K) : K (decide p) := by
  by_cases e : p
  · rw [decide_eq_true e]; exact h.1 e
  · rw [decide_eq_false e]; exact h.2 e

theorem eqK_sound {P : Program} {t : TypeId} {i : TI} (ht : tiOf P t = some i) {x y : Value} {w0 : World} {K : Bool → Prop} (h : eqK i x y w0 K) :
    plainEq x = true ∧ ∃ b, (∀ w, Ext w0 w → (Op.equal t x y).run P w = .ok b w) ∧ K b := by
  obtain ⟨inf, d, z, ok⟩ := tiOf_spec ht
  have hkind := ok.kind
  have hund := ok.und
  unfold eqK at h
  split at h
  · rename_i hk
    rw [hk] at hkind
    obtain ⟨e, rfl, he1, he2⟩ := kind_ptr hkind
    exact ⟨rfl, _, fun w _ => eqIn_nil hund _ 9999 w, h⟩
  · rename_i hk
    rw [hk] at hkind
    obtain ⟨e, rfl, he1, he2⟩ := kind_ptr hkind
    exact ⟨rfl, _, fun w _ => eqIn_some_nil hund _ 9999 w, h⟩
  · rename_i n a b hk
    rw [hk] at hkind
    obtain ⟨e, rfl, he1, he2⟩ := kind_ptr hkind
    obtain ⟨h0, ⟨ca, ta, h1⟩, ⟨cb, tb, h2⟩, hK⟩ := h
    refine ⟨rfl, (a == b), fun w hx => ?_, tsK_eq hK⟩
    exact run_equal_ptr hund he2 (by rw [he1]; exact h0) ⟨ca, ta, hx.1.blk h1⟩ ⟨cb, tb, hx.1.blk h2⟩ 9999
  · rename_i hk
    rw [hk] at hkind
    have hd := kind_bool hkind
    subst hd
    exact ⟨rfl, _, fun w _ => eqIn_bool hund _ _ 9999 w, tsK_eq h⟩
  · rename_i hk
    rw [hk] at hkind
    obtain ⟨hd, _, _⟩ := kind_slice hkind
    subst hd
    exact ⟨rfl, _, fun w _ => eqIn_slice_nil hund _ _ _ _ _ 9999 w, h⟩
  · rename_i hk
    rw [hk] at hkind
    obtain ⟨hd, _, _⟩ := kind_slice hkind
    subst hd
    exact ⟨rfl, _, fun w _ => eqIn_slice_some hund _ _ _ _ _ 9999 w, h⟩
  · exact h.elim

theorem arK_sound {P : Program} {op : BinOp} {k : IntKind} {a b : Int} {K : Value → Prop} (h : arK op k a b K) (hs : op ≠ .shl) (hr : op ≠ .shr) (t : TypeId) :
    ∃ v, (∀ w, (binOp op t (.int k a) (.int k b)).run P w = .ok v w) ∧ K v := by
  cases op <;> simp only [arK] at h <;> first
    | exact h.elim
    | (exact absurd rfl hs)
    | (exact absurd rfl hr)
    | (obtain ⟨v, rfl, hK⟩ := h; exact ⟨_, fun w => by simp [binOp, Op.intArith, Op.intBits], hK⟩)
    | (obtain ⟨h0, v, rfl, hK⟩ := h; exact ⟨_, fun w => by simp [binOp, Op.intDiv, h0], hK⟩)
    | exact ⟨_, fun w => by simp only [binOp, Op.intCmp, ne_eq, not_true, if_false]; rfl, tsK_eq h⟩
    | exact ⟨_, fun w => by simp only [binOp, Op.intCmp, ne_eq, not_true, if_false]; rfl, tsK_dec h⟩
    | exact ⟨.bool (a != b), fun w => by simp only [binOp, Op.intCmp, ne_eq, not_true, if_false]; rfl, tsK_eq (K := fun t => K (.bool !t)) h⟩

theorem binK_sound {P : Program} {tt : Nat → Option TI} (htt : ∀ t i, tt t = some i → tiOf P t = some i) {op : BinOp} {t : TypeId} {x y : Value} {w0 : World} {K : Value → Prop} (h : binK tt op t x y w0 K) (ox oy : Operand) :
    ∃ v, (∀ w, Ext w0 w → (do eqGuard op t ox oy x y; binOp op t x y : Sem Value).run P w = .ok v w) ∧ K v := by
  unfold binK at h
  split at h
  · rename_i k a k' b
    have guard : ∀ w : World, (eqGuard op t ox oy (.int k a) (.int k' b)).run P w = .ok () w := fun w => by unfold eqGuard; cases op <;> simp
    split at h
    · obtain ⟨h0, v, rfl, hK⟩ := h
      exact ⟨_, fun w _ => by rw [Sem.run_bind, guard]; simp [binOp, Op.shift, Int.not_lt.2 h0], hK⟩
    · obtain ⟨h0, v, rfl, hK⟩ := h
      exact ⟨_, fun w _ => by rw [Sem.run_bind, guard]; simp [binOp, Op.shift, Int.not_lt.2 h0], hK⟩
    · rename_i h1 h2
      split at h
      · rename_i hk
        subst hk
        obtain ⟨v, hv, hK⟩ := arK_sound (P := P) h (fun e => h1 e) (fun e => h2 e) t
        exact ⟨v, fun w _ => by rw [Sem.run_bind, guard]; simp [hv], hK⟩
      · exact h.elim
  · rename_i hni
    split at h
    · rename_i i hi
      obtain ⟨hp, b, hb, hK⟩ := eqK_sound (htt _ _ hi) h
      refine ⟨_, fun w hx => ?_, hK⟩
      rw [Sem.run_bind, run_eqGuard _ _ _ _ _ hp]
      simp only [Result.andThen_ok]
      have e : binOp .eql t x y = (do pure (.bool (← Op.equal t x y))) := by
        unfold eqK at h
        split at h <;> first | rfl | exact h.elim
      rw [e]; simp [hb w hx]
    · rename_i i hi
      obtain ⟨hp, b, hb, hK⟩ := eqK_sound (htt _ _ hi) h
      refine ⟨_, fun w hx => ?_, hK⟩
      rw [Sem.run_bind, run_eqGuard _ _ _ _ _ hp]
      simp only [Result.andThen_ok]
      have e : binOp .neq t x y = (do pure (.bool (!(← Op.equal t x y)))) := by
        unfold eqK at h
        split at h <;> first | rfl | exact h.elim
      rw [e]; simp [hb w hx]
    · exact h.elim


theorem map_toList (f : Operand → Value) (l : Array Operand) : l.map f = (l.toList.map f).toArray := by
  rw [← Array.toList_map, Array.toArray_toList]

section
variable {P : Program} {tt : Nat → Option TI} (htt : ∀ t i, tt t = some i → tiOf P t = some i)

theorem rd_value {s : Sem Value} {v : Value} {w w' : World} (h : s.run P w = .ok v w') : (do pure (Next.value (← s)) : Sem Next).run P w = .ok (.value v) w' := by simp [h]

include htt in
theorem rdK_sound {o : Oper} {ρ : Operand → Value} {w0 : World} {K : Value → Prop} (h : rdK tt o.op ρ w0 K) :
    ∃ v, (∀ w, Ext w0 w → (execOp ρ o).run P w = .ok (.value v) w) ∧ K v := by
  obtain ⟨dst, op, type, pos, after, guard⟩ := o
  simp only at h
  unfold rdK at h
  split at h
  · exact ⟨_, fun w _ => by simp [execOp], h⟩
  · exact ⟨_, fun w _ => by simp [execOp], h⟩
  · rename_i c a b
    split at h
    · rename_i t hc
      refine ⟨_, fun w _ => ?_, h⟩
      simp only [execOp, hc, asBool]
      cases t <;> simp
    · exact h.elim
  · rename_i op t x y yt
    obtain ⟨v, hv, hK⟩ := binK_sound htt h x y
    exact ⟨v, fun w hx => by simp only [execOp]; exact rd_value (hv w hx), hK⟩
  · split at h
    · rename_i b hb
      exact ⟨_, fun w _ => by simp [execOp, hb, Op.unary], h⟩
    · exact h.elim
  · split at h
    · rename_i k n hb
      obtain ⟨v, rfl, h⟩ := h
      exact ⟨_, fun w _ => by simp [execOp, hb, Op.unary, Op.intArith], h⟩
    · exact h.elim
  · split at h
    · rename_i k n hb
      obtain ⟨v, rfl, h⟩ := h
      exact ⟨_, fun w _ => by simp only [execOp, hb, Op.unary, Op.intBits]; rfl, h⟩
    · exact h.elim
  · rename_i s d x
    split at h
    · rename_i s' a b c e k k' n hs hd hx
      obtain ⟨i1, d1, z1, o1⟩ := tiOf_spec (htt _ _ hs)
      obtain ⟨i2, d2, z2, o2⟩ := tiOf_spec (htt _ _ hd)
      have hd2 := kind_int o2.kind
      subst hd2
      obtain ⟨v, rfl, h⟩ := h
      exact ⟨_, fun w _ => by simp [execOp, hx, convert, run_und w o1.und, run_und w o2.und, Conv.intToInt], h⟩
    · exact h.elim
  · split at h
    · rename_i a ha
      exact ⟨_, fun w _ => by simp [execOp, ha], h⟩
    · rename_i f p q ha
      exact ⟨_, fun w _ => by simp [execOp, ha], h⟩
    · exact h.elim
  · rename_i s x f
    split at h
    · rename_i a b c e fs ad hs hx
      obtain ⟨i1, d1, z1, o1⟩ := tiOf_spec (htt _ _ hs)
      obtain ⟨gs, rfl, hg, hfs⟩ := kind_struct o1.kind
      split at h
      · rename_i i hi
        obtain ⟨h0, hK⟩ := h
        subst hfs
        simp only [List.getElem?_map, Option.map_eq_some_iff] at hi
        obtain ⟨g, hg1, rfl⟩ := hi
        have hgm : g ∈ gs.toList := List.mem_of_getElem? hg1
        have hg1' : gs[f]? = some g := by simpa using hg1
        refine ⟨_, fun w _ => ?_, hK⟩
        simp [execOp, hx, Instr.fieldAt, run_und w o1.und, hg1', Instr.sureAddr, fieldPlace, run_sz w (hg g hgm).1, h0]
      · exact h.elim
    · exact h.elim
  · rename_i s x f
    split at h
    · rename_i a b c e fs cs hs hx
      obtain ⟨i1, d1, z1, o1⟩ := tiOf_spec (htt _ _ hs)
      obtain ⟨gs, rfl, hg, hfs⟩ := kind_struct o1.kind
      split at h
      · rename_i i hi
        subst hfs
        simp only [List.getElem?_map, Option.map_eq_some_iff] at hi
        obtain ⟨g, hg1, rfl⟩ := hi
        have hgm : g ∈ gs.toList := List.mem_of_getElem? hg1
        have hg1' : gs[f]? = some g := by simpa using hg1
        obtain ⟨dg, hdg⟩ := Option.isSome_iff_exists.1 (hg g hgm).2
        simp only at h
        cases hag : aggOf P g.type with
        | true =>
          rw [hag] at h
          simp only [cond_true] at h
          refine ⟨_, fun w _ => ?_, h⟩
          have e1 : (cs.extract g.offset (g.offset + szOf P g.type)) = ((cs.toList.drop g.offset).take (szOf P g.type)).toArray := by
            rw [← Array.toArray_toList (xs := cs.extract g.offset (g.offset + szOf P g.type)), Array.toList_extract]
            simp [List.extract]
          simp [execOp, hx, Instr.field, run_und w o1.und, hg1', part, asAgg, run_agg w hdg, hag, run_sz w (hg g hgm).1, e1]
        | false =>
          rw [hag] at h
          simp only [cond_false] at h
          split at h
          · rename_i v hv
            refine ⟨_, fun w _ => ?_, h⟩
            have hv' : cs[g.offset]? = some v := by simpa using hv
            simp [execOp, hx, Instr.field, run_und w o1.und, hg1', part, asAgg, run_agg w hdg, hag, hv']
          · exact h.elim
      · exact h.elim
    · exact h.elim
  · rename_i t x
    split at h
    · rename_i i a hi hx
      obtain ⟨v, hv, hK⟩ := run_loadVar_of (htt _ _ hi) h
      exact ⟨v, fun w he => by simp [execOp, hx, Instr.loadAt, Instr.sureAddr, hv w he], hK⟩
    · exact h.elim
  · rename_i t x ix
    split at h
    · rename_i s' b' ag' z' e esz a len cap k n hi hx hn
      obtain ⟨i1, d1, z1, o1⟩ := tiOf_spec (htt _ _ hi)
      obtain ⟨rfl, hsz, he⟩ := kind_slice o1.kind
      obtain ⟨p, h0, h1, rfl, hK⟩ := h
      refine ⟨_, fun w _ => ?_, hK⟩
      simp [execOp, hx, hn, Instr.indexAt, asIntOf, run_und w o1.und, h0, h1, run_sz w he, hsz]
    · rename_i s' b' ag' z' len e esz a k n hi hx hn
      obtain ⟨i1, d1, z1, o1⟩ := tiOf_spec (htt _ _ hi)
      obtain ⟨rfl, hsz, he⟩ := kind_array o1.kind
      obtain ⟨p, h0, h1, rfl, hK⟩ := h
      refine ⟨_, fun w _ => ?_, hK⟩
      simp [execOp, hx, hn, Instr.indexAt, asIntOf, run_und w o1.und, Instr.sureAddr, h0, h1, run_sz w he, hsz]
    · exact h.elim
  · rename_i t x lo hi mx
    split at h
    · rename_i s' b' ag' z' e esz base len cap hi' hx
      obtain ⟨i1, d1, z1, o1⟩ := tiOf_spec (htt _ _ hi')
      obtain ⟨hd, hsz, he⟩ := kind_slice o1.kind
      subst hd
      rw [← hsz] at h
      obtain ⟨v, hv, hK⟩ := run_slice_of o1.und he h
      exact ⟨v, fun w _ => by simp only [execOp, hx]; exact rd_value (hv w), hK⟩
    · exact h.elim
  · rename_i t x
    split at h
    · exact h.elim
    · rename_i i hni hi
      obtain ⟨i1, d1, z1, o1⟩ := tiOf_spec (htt _ _ hi)
      refine ⟨_, fun w _ => ?_, h⟩
      have hk : i.kind ≠ .iface := fun e => by
        obtain ⟨a, b, c, d, k⟩ := i
        simp only at e
        subst e
        exact hni a b c d rfl
      have hn := kind_not_iface o1.kind hk
      have hm : (Instr.makeInterface t (ρ x)).run P w = .ok (.iface t (ρ x)) w := by
        simp only [Instr.makeInterface, Sem.run_bind, run_und w o1.und, Result.andThen_ok]
        rfl
      simp [execOp, hm]
    · exact h.elim
  · rename_i fn first captured
    exact ⟨_, fun w _ => by simp only [execOp]; exact rd_value (by simp [Instr.makeFunc, map_toList]), h⟩
  · rename_i x i
    split at h
    · rename_i vs hvs
      split at h
      · rename_i v hv
        have hv' : vs[i]? = some v := by simpa using hv
        exact ⟨_, fun w _ => by simp [execOp, hvs, Instr.extract, hv'], h⟩
      · exact h.elim
    · exact h.elim
  · rename_i t parts
    split at h
    · rename_i a b c zero fs hi
      obtain ⟨i1, d1, z1, o1⟩ := tiOf_spec (htt _ _ hi)
      obtain ⟨gs, rfl, hg, hfs⟩ := kind_struct o1.kind
      subst hfs
      have hz : z1.cells.toList = zero := o1.zcells
      split at h
      · rename_i cs hcs
        refine ⟨_, fun w _ => ?_, h⟩
        have hpl : (gs.mapM fun f => (do pure (f.offset, ← sizeOf f.type) : Sem (Nat × Nat))).run P w = .ok (gs.map fun f => (f.offset, szOf P f.type)) w :=
          run_mapM_arr _ (fun f => (f.offset, szOf P f.type)) gs w (fun g hgm w => by simp [run_sz w (hg g hgm).1])
        have hf : Instr.fill (fun i => (gs.map fun f => (f.offset, szOf P f.type))[i]?) z1.cells (parts.toList.map fun p => (p.1, ρ p.2)) = some cs.toArray := by
          have := fill_eq _ _ _ _ hcs
          rw [← hz, Array.toArray_toList] at this
          rw [← this]
          congr 1
          funext i
          simp only [List.getElem?_map, Option.map_map, Array.getElem?_map, Array.getElem?_toList]
          rfl
        have e2 : (parts.map fun p => (p.1, ρ p.2)).toList = parts.toList.map fun p => (p.1, ρ p.2) := by simp
        have hb : (Instr.build t (parts.map fun p => (p.1, ρ p.2))).run P w = .ok (.agg cs.toArray) w := by
          simp only [Instr.build, Sem.run_bind, run_zero w o1.info o1.zero, run_und w o1.und, Result.andThen_ok, hpl, e2, hf, Sem.run_pure]
        simp only [execOp]
        exact rd_value hb
      · exact h.elim
    · rename_i a b c zero n e esz hi
      obtain ⟨i1, d1, z1, o1⟩ := tiOf_spec (htt _ _ hi)
      obtain ⟨rfl, hsz, he⟩ := kind_array o1.kind
      have hz : z1.cells.toList = zero := o1.zcells
      split at h
      · rename_i cs hcs
        refine ⟨_, fun w _ => ?_, h⟩
        have hf : Instr.fill (fun i => some (i * szOf P e, szOf P e)) z1.cells (parts.toList.map fun p => (p.1, ρ p.2)) = some cs.toArray := by
          have := fill_eq _ _ _ _ hcs
          rwa [← hz, Array.toArray_toList, ← hsz] at this
        have e2 : (parts.map fun p => (p.1, ρ p.2)).toList = parts.toList.map fun p => (p.1, ρ p.2) := by simp
        have hb : (Instr.build t (parts.map fun p => (p.1, ρ p.2))).run P w = .ok (.agg cs.toArray) w := by
          simp only [Instr.build, Sem.run_bind, run_zero w o1.info o1.zero, run_und w o1.und, Result.andThen_ok, run_sz w he, e2, hf, Sem.run_pure]
        simp only [execOp]
        exact rd_value hb
      · exact h.elim
    · exact h.elim
  · rename_i args argTypes
    split at h
    · rename_i t x ht hx
      have e1 : args.map ρ = #[x] := by rw [map_toList, hx]
      have e2 : argTypes = #[t] := by rw [← Array.toArray_toList (xs := argTypes), ht]
      split at h
      · rename_i s' b' ag' z' e esz a n cap hi
        obtain ⟨i1, d1, z1, o1⟩ := tiOf_spec (htt _ _ hi)
        obtain ⟨rfl, _, _⟩ := kind_slice o1.kind
        exact ⟨_, fun w _ => by simp [execOp, resolve, invoke, builtin, e1, e2, Builtin.len_, run_und w o1.und, goInt], h⟩
      · rename_i s' b' ag' z' s hi
        obtain ⟨i1, d1, z1, o1⟩ := tiOf_spec (htt _ _ hi)
        have := kind_str o1.kind
        subst this
        exact ⟨_, fun w _ => by simp [execOp, resolve, invoke, builtin, e1, e2, Builtin.len_, run_und w o1.und, goInt], h⟩
      · exact h.elim
    · exact h.elim
  · rename_i args argTypes
    split at h
    · rename_i k a k' b hx
      obtain ⟨v, rfl, h⟩ := h
      have e1 : args.map ρ = #[.int k a, .int k' b] := by rw [map_toList, hx]
      exact ⟨_, fun w _ => by simp [execOp, resolve, invoke, builtin, e1, Builtin.min_, Builtin.min2], h⟩
    · exact h.elim
  · rename_i args argTypes
    split at h
    · rename_i k a k' b hx
      obtain ⟨v, rfl, h⟩ := h
      have e1 : args.map ρ = #[.int k a, .int k' b] := by rw [map_toList, hx]
      exact ⟨_, fun w _ => by simp [execOp, resolve, invoke, builtin, e1, Builtin.max_, Builtin.max2], h⟩
    · exact h.elim
  · exact h.elim

/-! ### operations that turn the world -/

theorem upd_setRow {w : World} {b : Nat} {cs0 cs1 : List Value} {t : TypeId} (h : w.heap[b]? = some (.cells cs0.toArray t (0, 0))) :
    Upd w (w.setRow b cs1.toArray) b (.cells cs1.toArray t (0, 0)) := by
  refine ⟨by simp [World.setRow], setRow_heap w b _ _ t _ h, fun k hk => setRow_other w b k _ hk, rfl, rfl, rfl⟩

theorem opUpon_value {o : Oper} {a : Act} {w w' : World} {next : Act → World → Prop} {Q : Exit → Act → World → Prop} {v : Value} (h : (execOp a.eval o).run P w = .ok (.value v) w') (hn : next (a.put o.dst v) w') : o.wp P a w next Q := by
  unfold Oper.wp; rw [h]; exact hn
theorem opUpon_skip {o : Oper} {a : Act} {w w' : World} {next : Act → World → Prop} {Q : Exit → Act → World → Prop} (h : (execOp a.eval o).run P w = .ok .skip w') (hn : next (a.put o.dst undef) w') : o.wp P a w next Q := by
  unfold Oper.wp; rw [h]; exact hn
theorem opUpon_enter {o : Oper} {a : Act} {w w' : World} {next : Act → World → Prop} {Q : Exit → Act → World → Prop} {f : FuncId} {args : Array Value} (h : (execOp a.eval o).run P w = .ok (.enter f args) w')
    (hn : Calls P f args w' fun e w'' => ∃ v, e = .returned v ∧ next (a.put o.dst v) w'') : o.wp P a w next Q := by
  unfold Oper.wp; rw [h]
  exact Calls.mono hn fun e w'' ⟨v, he, hk⟩ => by subst he; exact hk

theorem run_callFunc {f : FuncId} (hf : callable P f = true) (args : Array Value) (w : World) : (callFunc f args).run P w = .ok (.enter f args) w := by
  unfold callable at hf
  cases h : P.funcs[f]? with
  | none => rw [h] at hf; cases hf
  | some fn =>
    rw [h] at hf
    simp only [Bool.and_eq_true, Bool.not_eq_true'] at hf
    have hb : fn.body ≠ none := by intro e; simp [e] at hf
    have hne : fn.name ≠ "runtime.NumGoroutine" := by simpa using hf.1
    simp [callFunc, h, hne, hb]

theorem byte_at (s : ByteArray) (m : Nat) (c : UInt8) (hc : s.data.toList[m]? = some c) : s[m]? = some c := by
  have hlt : m < s.data.toList.length := by
    rcases Nat.lt_or_ge m s.data.toList.length with g | g
    · exact g
    · rw [List.getElem?_eq_none g] at hc; cases hc
  have hlt' : m < s.size := by simpa using hlt
  rw [getElem?_pos s m hlt']
  rw [List.getElem?_eq_getElem hlt] at hc
  rw [← hc]
  rfl

theorem gen_sound {o : Oper} {a : Act} {w : World} {K : Value → World → Prop} {next : Act → World → Prop} {Q : Exit → Act → World → Prop}
    (hn : ∀ v w', K v w' → next (a.put o.dst v) w') (h : GenK P o a.eval K w) : o.wp P a w next Q := by
  have h := h.run
  unfold genP at h
  split at h
  · rename_i hr; exact opUpon_value hr (hn _ _ h)
  · rename_i hr; exact opUpon_skip hr (hn _ _ h)
  · rename_i hr; exact opUpon_enter hr (h.mono fun e w' ⟨v, he, hk⟩ => ⟨v, he, hn _ _ hk⟩)
  · exact h.elim

include htt in
theorem idx_sound {o : Oper} {a : Act} {w : World} {K : Value → World → Prop} {next : Act → World → Prop} {Q : Exit → Act → World → Prop} {t : TypeId} {x i : Operand}
    (hn : ∀ v w', K v w' → next (a.put o.dst v) w') (hop : o.op = .index t x i) (h : idxK P tt o a.eval t (a.eval x) (a.eval i) K w) : o.wp P a w next Q := by
  unfold idxK at h
  split at h
  · rename_i s' b' a' z' s k n hi hx hn'
    obtain ⟨i1, d1, z1, o1⟩ := tiOf_spec (htt _ _ hi)
    have := kind_str o1.kind
    subst this
    obtain ⟨h0, c, hc, v, rfl, hk⟩ := h
    refine opUpon_value (w' := w) ?_ (hn _ _ hk)
    simp only [execOp, hop, hx, hn']
    have hc' := byte_at s n.toNat c hc
    exact rd_value (by simp [Instr.index, asIntOf, run_und w o1.und, h0, hc'])
  · exact gen_sound hn h

include htt in
theorem opK_sound {o : Oper} {a : Act} {w : World} {K : Value → World → Prop} {next : Act → World → Prop} {Q : Exit → Act → World → Prop}
    (hn : ∀ v w', K v w' → next (a.put o.dst v) w') (h : opK P tt o a.eval K w) : o.wp P a w next Q := by
  have alloc : ∀ (cs : List Value) (t : TypeId) (Kb : Nat → World → Prop), AlK cs t Kb w → Kb w.heap.size { w with heap := w.heap.push (.cells cs.toArray t (0, 0)) } := by
    intro cs t Kb hk
    exact hk.run _ _ rfl (Ext.of_push w _) (by simp) (by simp)
  unfold opK at h
  split at h
  · rename_i t hop
    split at h
    · rename_i i hi
      obtain ⟨i1, d1, z1, o1⟩ := tiOf_spec (htt _ _ hi)
      have hz : z1.cells = i.zero.toArray := by rw [← o1.zcells, Array.toArray_toList]
      refine opUpon_value ?_ (hn _ _ (alloc _ _ _ h))
      simp only [execOp, hop]
      exact rd_value (by simp [Instr.alloc, run_zero w o1.info o1.zero, newVar, newRow, hz])
    · exact h.elim
  · rename_i t x hop
    refine opUpon_value ?_ (hn _ _ (alloc _ _ _ h))
    simp only [execOp, hop]
    exact rd_value (by simp [Instr.box, newVar, newRow])
  · rename_i t len parts hop
    split at h
    · rename_i s' b' ag' z' e esz hi
      split at h
      · rename_i s2 b2 a2 zero k2 he
        obtain ⟨i1, d1, z1, o1⟩ := tiOf_spec (htt _ _ hi)
        obtain ⟨i2, d2, z2, o2⟩ := tiOf_spec (htt _ _ he)
        obtain ⟨rfl, hsz, hei⟩ := kind_slice o1.kind
        obtain ⟨h1, h2, h3, h⟩ := h
        have hz : z2.cells.toList = zero := o2.zcells
        have h1' := Nat.le_of_ble_eq_true h1
        split at h
        · rename_i cs hcs
          refine opUpon_value ?_ (hn _ _ (alloc _ _ _ h))
          have hzl : zero.length ≠ 0 := by rw [h2]; exact h3
          have hrow : (Array.range (len * esz)).map (fun i => z2.cells[i % z2.cells.size]!) = (List.replicate len zero).flatten.toArray := by
            have hzs : z2.cells.size = zero.length := by rw [← hz, Array.length_toList]
            apply Array.toList_inj.1
            apply List.ext_getElem?
            intro j
            simp only [Array.toList_map, Array.toList_range, List.getElem?_map, hzs]
            rw [← h2]
            have hgen : ∀ (n j : Nat), (List.replicate n zero).flatten[j]? = if j < n * zero.length then zero[j % zero.length]? else none := by
              intro n
              induction n with
              | zero => intro j; simp
              | succ n ih =>
                intro j
                rw [List.replicate_succ, List.flatten_cons, List.getElem?_append]
                by_cases hj : j < zero.length
                · rw [if_pos hj, if_pos (by rw [Nat.succ_mul]; omega), Nat.mod_eq_of_lt hj]
                · rw [if_neg hj, ih (j - zero.length)]
                  rw [Nat.mod_eq_sub_mod (a := j) (by omega)]
                  by_cases hj2 : j < (n + 1) * zero.length
                  · rw [if_pos hj2, if_pos (by rw [Nat.succ_mul] at hj2; omega)]
                  · rw [if_neg hj2, if_neg (by rw [Nat.succ_mul] at hj2; omega)]
            rw [hgen len j]
            by_cases hj : j < len * zero.length
            · rw [if_pos hj]
              have hm : j % zero.length < zero.length := Nat.mod_lt _ (by omega)
              have hm2 : j % zero.length < z2.cells.size := by rw [hzs]; exact hm
              rw [List.getElem?_eq_getElem (by simpa using hj), List.getElem_range, Option.map_some, getElem!_pos z2.cells (j % zero.length) hm2, List.getElem?_eq_getElem hm]
              congr 1
              subst hz
              simp
            · rw [if_neg hj, List.getElem?_eq_none (by simpa using hj)]
              rfl
          have hf : Instr.fill (fun i => some (i * esz, esz)) ((Array.range (len * esz)).map (fun i => z2.cells[i % z2.cells.size]!)) (parts.toList.map fun p => (p.1, a.eval p.2)) = some cs.toArray := by
            rw [hrow]; exact fill_eq _ _ _ _ hcs
          have e2 : (parts.map fun p => (p.1, a.eval p.2)).toList = parts.toList.map fun p => (p.1, a.eval p.2) := by simp
          simp only [execOp, hop]
          refine rd_value ?_
          have hsize : szOf P e = esz := hsz
          simp only [Instr.buildSlice, Sem.run_bind, run_und w o1.und, Result.andThen_ok, run_sz w hei, hsize]
          rw [if_neg (by omega)]
          by_cases hl : len * esz = 0
          · simp only [hl, if_true, e2]
            rw [hl] at hf
            have hm0 : ∀ f : Nat → Value, (Array.range 0).map f = #[] := fun f => by apply Array.toList_inj.1; simp
            rw [hm0] at hf
            simp only [Sem.run_bind, Sem.run_pure, Result.andThen_ok, hm0, hf]
            simp [newRow]
          · simp only [hl, if_false, Sem.run_bind, run_zero w o2.info o2.zero, Result.andThen_ok, Sem.run_pure, e2, hf]
            simp [newRow]
        · exact h.elim
      · exact h.elim
    · exact h.elim
  · rename_i t x y hop
    split at h
    · rename_i i ad hi hx
      obtain ⟨i1, d1, z1, o1⟩ := tiOf_spec (htt _ _ hi)
      obtain ⟨cs0, t0, hb, hsp, hl, hfit, hflat, hK⟩ := h
      obtain ⟨blk, off, spot⟩ := ad
      simp only at hsp hb hfit hK
      subst hsp
      have hfit' := Nat.le_of_ble_eq_true hfit
      have h1 : ∀ v ∈ (a.eval y).cells.toList, v.oneCell' = true := fun v hv => by
        have := List.all_eq_true.1 hflat v hv
        cases v <;> first | rfl | (simp [flat] at this)
      have hst := run_storeCells_at P blk off t0 (a.eval y).cells.toList 0 cs0.toArray w hb (by simp only [List.size_toArray]; omega) h1
      simp only [Nat.add_zero] at hst
      have hs : (P.info? t).isSome = true := by rw [o1.info]; rfl
      have hsz : szOf P t = (a.eval y).cells.size := by unfold szOf; rw [o1.info]; simp only [Option.map_some, Option.getD_some, o1.size, ← hl, Array.length_toList]
      refine opUpon_skip (w' := w.setRow blk (setL cs0 off (a.eval y).cells.toList).toArray) ?_ (hn _ _ (hK _ (upd_setRow hb)))
      simp only [execOp, hop, hx, Instr.storeAt, Instr.sureAddr, storeVar, Sem.run_bind, Sem.run_pure, Result.andThen_ok, run_sz w hs, hsz]
      rw [if_neg (by simp)]
      simp only [Result.andThen_ok, hst]
      rfl
    · exact h.elim
  · rename_i f args argTypes hop
    split at h
    · rename_i g first cap hf
      have e1 : first ++ args.map a.eval ++ cap = (first.toList ++ args.toList.map a.eval ++ cap.toList).toArray := by
        apply Array.toList_inj.1; simp
      rcases h.run with ⟨hc, hcall⟩ | ⟨v, w', hr, hk⟩
      · refine opUpon_enter (f := g) (args := (first.toList ++ args.toList.map a.eval ++ cap.toList).toArray) (w' := w) ?_ (hcall.mono fun e w' ⟨v, he, hk⟩ => ⟨v, he, hn _ _ hk⟩)
        simp only [execOp, hop, resolve, hf, Deferred.ofValue, Sem.run_bind, Sem.run_pure, Result.andThen_ok, invoke, e1]
        exact run_callFunc hc _ w
      · refine opUpon_value (v := v) (w' := w') ?_ (hn _ _ hk)
        simp only [execOp, hop, resolve, hf, Deferred.ofValue, Sem.run_bind, Sem.run_pure, Result.andThen_ok, invoke, e1]
        exact hr
    · exact h.elim
  all_goals first
    | exact gen_sound hn h
    | (rename_i t x i hop; exact idx_sound htt hn hop h)
    | (obtain ⟨v, hv, hK⟩ := rdK_sound htt h
       exact opUpon_value (hv w (Ext.refl w)) (hn _ _ hK))

end

/-! ## The code, as what it asks of frame and world -/

/-- the order in which a region that draws is gone through: an operation that only reads is taken first (s waits for it); one, or one of two, or of three, comes up ('fin': one, behind which no taken operation is waited for any more) -/
inductive Sc where
  | done
  | take (i s : Nat) (k : Sc)
  | one (i : Nat) (k : Sc)
  | fin (i : Nat) (k : Sc)
  | two (i : Nat) (ki : Sc) (j : Nat) (kj : Sc)
  | three (i : Nat) (ki : Sc) (j : Nat) (kj : Sc) (q : Nat) (kq : Sc)

/-- the operations for which others are taken first -/
def Sc.wits : Sc → List Nat
  | .done => []
  | .take _ s k => s :: k.wits
  | .one _ k => k.wits
  | .fin _ k => k.wits
  | .two _ ki _ kj => ki.wits ++ kj.wits
  | .three _ ki _ kj _ kq => ki.wits ++ kj.wits ++ kq.wits

def Sc.ok (ops : Array Oper) (ms : List Nat) : Sc → Array Bool → Bool
  | .done, l => Region.ready .any ops l == []
  | .take i s k, l => ms.contains s && waits ops s i && (l.getD s true == false) && Region.free .any ops l i && (Region.ready .any ops l).contains i && k.ok ops ms (l.setIfInBounds i true)
  | .one i k, l => Region.ready .any ops l == [i] && k.ok ops ms (l.setIfInBounds i true)
  | .fin i k, l => Region.ready .any ops l == [i] && !more ms (l.setIfInBounds i true) && k.ok ops ms (l.setIfInBounds i true)
  | .two i ki j kj, l => Region.ready .any ops l == [i, j] && ki.ok ops ms (l.setIfInBounds i true) && kj.ok ops ms (l.setIfInBounds j true)
  | .three i ki j kj q kq, l => Region.ready .any ops l == [i, j, q] && ki.ok ops ms (l.setIfInBounds i true) && kj.ok ops ms (l.setIfInBounds j true) && kq.ok ops ms (l.setIfInBounds q true)

/-- how many operations come up -/
def Sc.len : Sc → Nat
  | .done => 0
  | .take _ _ k => k.len + 1
  | .one _ k => k.len + 1
  | .fin _ k => k.len + 1
  | .two _ ki _ _ => ki.len + 1
  | .three _ ki _ _ _ _ => ki.len + 1

def Sc.even : Sc → Bool
  | .done => true
  | .take _ _ k => k.even
  | .one _ k => k.even
  | .fin _ k => k.even
  | .two _ ki _ kj => ki.even && kj.even && (ki.len == kj.len)
  | .three _ ki _ kj _ kq => ki.even && kj.even && kq.even && (ki.len == kj.len) && (ki.len == kq.len)

/-- what is owed behind an operation: nothing behind the last one -/
def owed (w0 w : World) (k : Sc) (p : Prop) : Prop :=
  match k with
  | .done => p
  | _ => Ext w0 w ∧ p

/-- is an operation carried out? -/
def gd (ops : Array Oper) (o : Oper) (e : Env) (yes no : Prop) : Prop :=
  match o.guard with
  | none => yes
  | some (g, want) =>
    match (ops.toList[g]?).bind (·.dst) with
    | some d => (match e d with | .bool b => cond (b == want) yes no | _ => no)
    | none => no

/-- an operation, and what follows it (named once: what follows is named in one place alone, else the unfolding is exponential) -/
def gdW (ops : Array Oper) (o : Oper) (e : Env) (w : World) (F : (Value → World → Prop) → Prop) (D : Value → World → Prop) : Prop := gd ops o e (F D) (D undef w)

section
variable (P : Program) (tt : Nat → Option TI)

def denL (ops : Array Oper) : List Oper → (Env → World → Prop) → Env → World → Prop
  | [], K, e, w => K e w
  | o :: rest, K, e, w => gdW ops o e w (fun D => opK P tt o (ev e) D w) (fun v w' => denL ops rest K (put e o.dst v) w')

def denSc (ops : Array Oper) (w0 : World) : Sc → (Env → World → Prop) → Env → World → Prop
  | .done, K, e, w => K e w
  | .take i _ k, K, e, w =>
    match ops.toList[i]? with
    | some o => gdW ops o e w (fun D => rdK tt o.op (ev e) w0 fun v => D v w) (fun v w' => denSc ops w0 k K (put e o.dst v) w')
    | none => False
  | .one i k, K, e, w =>
    match ops.toList[i]? with
    | some o => gdW ops o e w (fun D => opK P tt o (ev e) (fun v w' => owed w0 w' k (D v w')) w) (fun v w' => denSc ops w0 k K (put e o.dst v) w')
    | none => False
  | .fin i k, K, e, w =>
    match ops.toList[i]? with
    | some o => gdW ops o e w (fun D => opK P tt o (ev e) D w) (fun v w' => denSc ops w0 k K (put e o.dst v) w')
    | none => False
  | .three i ki j kj q kq, K, e, w =>
    (match ops.toList[i]? with
    | some o => gdW ops o e w (fun D => opK P tt o (ev e) (fun v w' => owed w0 w' ki (D v w')) w) (fun v w' => denSc ops w0 ki K (put e o.dst v) w')
    | none => False) ∧
    (match ops.toList[j]? with
    | some o => gdW ops o e w (fun D => opK P tt o (ev e) (fun v w' => owed w0 w' kj (D v w')) w) (fun v w' => denSc ops w0 kj K (put e o.dst v) w')
    | none => False) ∧
    (match ops.toList[q]? with
    | some o => gdW ops o e w (fun D => opK P tt o (ev e) (fun v w' => owed w0 w' kq (D v w')) w) (fun v w' => denSc ops w0 kq K (put e o.dst v) w')
    | none => False)
  | .two i ki j kj, K, e, w =>
    (match ops.toList[i]? with
    | some o => gdW ops o e w (fun D => opK P tt o (ev e) (fun v w' => owed w0 w' ki (D v w')) w) (fun v w' => denSc ops w0 ki K (put e o.dst v) w')
    | none => False) ∧
    (match ops.toList[j]? with
    | some o => gdW ops o e w (fun D => opK P tt o (ev e) (fun v w' => owed w0 w' kj (D v w')) w) (fun v w' => denSc ops w0 kj K (put e o.dst v) w')
    | none => False)

/-- what follows -/
structure Ks where
  nrm : Env → World → Prop
  ext : Nat → Env → World → Prop
  gto : Nat → Env → World → Prop
  ret : Env → World → Prop

def lift (n : Nat) (K : Ks) : Exit → Act → World → Prop
  | .normal, a, w => ∃ e, Rep n a e ∧ K.nrm e w
  | .exit i, a, w => ∃ e, Rep n a e ∧ K.ext i e w
  | .goto l, a, w => ∃ e, Rep n a e ∧ K.gto l e w
  | .ret, a, w => ∃ e, Rep n a e ∧ K.ret e w
  | _, _, _ => False

/-- a loop: what holds at each round's head, of something that each round lowers -/
inductive LoopK (body : (Env → World → Prop) → Env → World → Prop) (e : Env) (w : World) : Prop where
  | mk (σ : Type) (I : σ → Env → World → Prop) (μ : σ → Nat) (s0 : σ) (h0 : I s0 e w) (hr : ∀ s e w, I s e w → body (fun e' w' => ∃ s', I s' e' w' ∧ μ s' < μ s) e w)

theorem least_of {p : Nat → Prop} (h : ∃ n, p n) : ∃ n, p n ∧ ∀ m, p m → n ≤ m := by
  obtain ⟨n, hn⟩ := h
  induction n using Nat.strongRecOn with
  | _ n ih =>
    by_cases hm : ∃ m, m < n ∧ p m
    · obtain ⟨m, hlt, hp⟩ := hm
      exact ih m hlt hp
    · exact ⟨n, hn, fun m hp => by
        rcases Nat.lt_or_ge m n with h | h
        · exact absurd ⟨m, h, hp⟩ hm
        · exact h⟩

/-- the least number of a family of states that fits -/
noncomputable def ghost {σ α : Type} (I : σ → α → Prop) (μ : σ → Nat) (x : α) : Nat := @Classical.epsilon Nat ⟨0⟩ fun n => (∃ s, I s x ∧ μ s = n) ∧ ∀ m, (∃ s, I s x ∧ μ s = m) → n ≤ m
theorem ghost_spec {σ α : Type} {I : σ → α → Prop} {μ : σ → Nat} {x : α} (h : ∃ s, I s x) : (∃ s, I s x ∧ μ s = ghost I μ x) ∧ ∀ s, I s x → ghost I μ x ≤ μ s := by
  obtain ⟨s, hs⟩ := h
  have := least_of (p := fun n => ∃ s, I s x ∧ μ s = n) ⟨_, s, hs, rfl⟩
  have := Classical.epsilon_spec (p := fun n => (∃ s, I s x ∧ μ s = n) ∧ ∀ m, (∃ s, I s x ∧ μ s = m) → n ≤ m) this
  exact ⟨this.1, fun s hs => this.2 _ ⟨s, hs, rfl⟩⟩

structure SemK (n : Nat) (c : Code) (K : Ks) (e : Env) (w : World) : Prop where
  run : ∀ a, Rep n a e → c.wp P (lift n K) a w

def den (n : Nat) (sc : Nat → Sc) : Code → Ks → Env → World → Prop
  | .skip, K, e, w => K.nrm e w
  | .region id ops draw, K, e, w => cond draw (denSc P tt ops (drw w) (sc id) K.nrm e (drw w)) (denL P tt ops ops.toList K.nrm e w)
  | .seq x y, K, e, w => den n sc x { K with nrm := den n sc y K } e w
  | .cond c x y, K, e, w =>
    (match ev e c with
    | .bool true => den n sc x K e w
    | .bool false => den n sc y K e w
    | _ => False)
  | .block id c, K, e, w => den n sc c { K with ext := fun i e w => cond (Nat.beq i id) (K.nrm e w) (K.ext i e w) } e w
  | .loop c, K, e, w => LoopK (fun nrm e w => den n sc c { K with nrm := nrm } e w) e w
  | .exit id, K, e, w => K.ext id e w
  | .label _, K, e, w => K.nrm e w
  | .goto l, K, e, w => K.gto l e w
  | .ret, K, e, w => K.ret e w
  | .refuse _, _, _, _ => False
  | .scope c, K, e, w => SemK P n (.scope c) K e w
  | .rangeFunc f ps x y, K, e, w => SemK P n (.rangeFunc f ps x y) K e w

def dstOk (n : Nat) (ops : Array Oper) : Bool := ops.toList.all fun o => match o.dst with | some d => Nat.blt d n | none => true

def chk (n : Nat) (sc : Nat → Sc) : Code → Bool
  | .region id ops draw => dstOk n ops && (!draw || (Region.noSelect ops && (sc id).even && ((sc id).len == ops.size) && (sc id).ok ops (sc id).wits (Array.replicate ops.size false)))
  | .seq x y => chk n sc x && chk n sc y
  | .cond _ x y => chk n sc x && chk n sc y
  | .block _ c => chk n sc c
  | .loop c => chk n sc c
  | _ => true

end

section
variable {P : Program} {tt : Nat → Option TI}

theorem wanted_gd {ops : Array Oper} {o : Oper} {n : Nat} {a : Act} {e : Env} (r : Rep n a e) {yes no : Prop} (h : gd ops o e yes no) :
    (Region.wanted o (yielded ops a.tmps) = true ∧ yes) ∨ (Region.wanted o (yielded ops a.tmps) = false ∧ no) := by
  unfold gd at h
  unfold Region.wanted
  cases hg : o.guard with
  | none => rw [hg] at h; exact .inl ⟨rfl, h⟩
  | some q =>
    obtain ⟨g, want⟩ := q
    rw [hg] at h
    simp only at h ⊢
    unfold yielded
    have hops : ops[g]? = ops.toList[g]? := by simp
    rw [hops]
    cases hd : (ops.toList[g]?).bind (·.dst) with
    | none => rw [hd] at h; exact .inr ⟨rfl, h⟩
    | some d =>
      rw [hd] at h
      simp only [Option.bind_some] at h ⊢
      rw [← r.at_ d, Array.getD_eq_getD_getElem?] at h
      cases ht : a.tmps[d]? with
      | none => rw [ht] at h; exact .inr ⟨rfl, h⟩
      | some v =>
        rw [ht] at h
        simp only [Option.getD_some] at h
        cases v <;> try exact .inr ⟨rfl, h⟩
        rename_i b
        simp only at h ⊢
        cases hb : (b == want) with
        | true => rw [hb] at h; exact .inl ⟨by simpa using hb, h⟩
        | false => rw [hb] at h; exact .inr ⟨by simpa using hb, h⟩

theorem gd_mono {ops : Array Oper} {o : Oper} {e : Env} {p q p' q' : Prop} (h : gd ops o e p q) (hp : p → p') (hq : q → q') : gd ops o e p' q' := by
  unfold gd at *
  split
  · rename_i hg; rw [hg] at h; exact hp h
  · rename_i g want hg
    rw [hg] at h
    simp only at h
    split
    · rename_i d hd
      rw [hd] at h
      simp only at h
      split
      · rename_i b hb
        rw [hb] at h
        simp only at h
        cases hbb : (b == want) <;> rw [hbb] at h <;> first | exact hp h | exact hq h
      · rename_i hnb
        split at h
        · rename_i b hb; exact absurd hb (hnb b)
        · exact hq h
    · rename_i hd
      split at h
      · rename_i d hd'; rw [hd] at hd'; cases hd'
      · exact hq h

variable (htt : ∀ t i, tt t = some i → tiOf P t = some i)

theorem dst_lt {n : Nat} {ops : Array Oper} (h : dstOk n ops = true) {o : Oper} (ho : o ∈ ops.toList) : ∀ i, o.dst = some i → i < n := by
  intro i hi
  have := List.all_eq_true.1 h o ho
  rw [hi] at this
  exact Nat.le_of_ble_eq_true this

include htt in
theorem denL_sound {n : Nat} {ops : Array Oper} (hd : dstOk n ops = true) {K : Env → World → Prop} {Q : Exit → Act → World → Prop} (hQ : ∀ a w e, Rep n a e → K e w → Q .normal a w) :
    ∀ (l : List Oper), (∀ o ∈ l, o ∈ ops.toList) → ∀ (e : Env) (w : World) (a : Act), Rep n a e → denL P tt ops l K e w → wpList P ops Q l a w
  | [], _, e, w, a, r, h => hQ a w e r h
  | o :: rest, hl, e, w, a, r, h => by
    have ho := hl o (by simp)
    simp only [denL, gdW] at h
    simp only [wpList]
    rcases wanted_gd r h with ⟨hw, h⟩ | ⟨hw, h⟩
    · rw [hw]
      simp only [if_true]
      rw [← r.ev] at h
      exact .inl (opK_sound htt (fun v w' hk => denL_sound hd hQ rest (fun o' h' => hl o' (by simp [h'])) _ _ _ (r.put o.dst v (dst_lt hd ho)) hk) h)
    · rw [hw]
      simp only [Bool.false_eq_true, if_false]
      exact denL_sound hd hQ rest (fun o' h' => hl o' (by simp [h'])) _ _ _ (r.put o.dst undef (dst_lt hd ho)) h

theorem listed_all {ops : Array Oper} {ms : List Nat} {l : Array Bool} (hs : l.size = ops.size) (hlen : 0 = ((List.range ops.size).filter fun i => !l.getD i true).length) : more ms l = false := by
  have hnil : ((List.range ops.size).filter fun i => !l.getD i true) = [] := List.eq_nil_of_length_eq_zero hlen.symm
  cases hm : more ms l with
  | false => rfl
  | true =>
    obtain ⟨i, hi, hl⟩ := more_spec.1 hm
    rcases Nat.lt_or_ge i ops.size with g | g
    · have hmem : i ∈ ((List.range ops.size).filter fun i => !l.getD i true) := by simp [g]; simpa using hl
      rw [hnil] at hmem; cases hmem
    · rw [Array.getD_eq_getD_getElem?, Array.getElem?_eq_none (by omega)] at hl
      cases hl

/-- the operations that have not come up yet, one fewer behind each -/
theorem left_step {ops : Array Oper} {l : Array Bool} (hs : l.size = ops.size) {i : Nat} (hi : i ∈ Region.ready .any ops l) :
    ((List.range ops.size).filter fun j => !l.getD j true).length = ((List.range ops.size).filter fun j => !(l.setIfInBounds i true).getD j true).length + 1 := by
  obtain ⟨h1, o, ho, _⟩ := mem_ready.1 hi
  have hlt : i < ops.size := by
    rcases Nat.lt_or_ge i ops.size with g | g
    · exact g
    · rw [Array.getElem?_eq_none g] at ho; cases ho
  have key : ∀ m, m ≤ ops.size → ((List.range m).filter fun j => !l.getD j true).length = ((List.range m).filter fun j => !(l.setIfInBounds i true).getD j true).length + (if i < m then 1 else 0) := by
    intro m
    induction m with
    | zero => simp
    | succ m ih =>
      intro hm
      have ih := ih (by omega)
      rw [List.range_succ, List.filter_append, List.filter_append, List.length_append, List.length_append, ih]
      by_cases him : i = m
      · subst him
        have ha : (l.setIfInBounds i true).getD i true = true := by
          simp only [Array.getD_eq_getD_getElem?, Array.getElem?_setIfInBounds]
          simp [hs, hlt]
        simp only [List.filter_cons, List.filter_nil, h1, ha]
        simp
      · have ha : (l.setIfInBounds i true).getD m true = l.getD m true := getD_set_ne true him
        simp only [List.filter_cons, List.filter_nil, ha]
        have : (i < m + 1) = (i < m) := by apply propext; omega
        simp only [this]
        omega
  have := key ops.size (Nat.le_refl _)
  rw [if_pos hlt] at this
  exact this

theorem owed_more {ops : Array Oper} {ms : List Nat} {w0 w : World} {k : Sc} {p : Prop} {l : Array Bool} (hs : l.size = ops.size)
    (hlen : k.len = ((List.range ops.size).filter fun i => !l.getD i true).length) (h : owed w0 w k p) : (more ms l = true → Ext w0 w) ∧ p := by
  cases k with
  | done =>
    have := listed_all (ms := ms) hs hlen
    exact ⟨fun hm => (by rw [this] at hm; cases hm), h⟩
  | _ => exact ⟨fun _ => h.1, h.2⟩

/-- one operation of several that may come up -/
theorem denSc_step {n : Nat} {ops : Array Oper} {ms : List Nat} {w0 : World} (htt : ∀ t i, tt t = some i → tiOf P t = some i) (hd : dstOk n ops = true) {K : Env → World → Prop} {Q : Exit → Act → World → Prop} {l : Array Bool} {i f : Nat} {k : Sc} {e : Env} {w : World} {a : Act} {W : Prop → World → Prop}
    (hmem : i ∈ Region.ready .any ops l) (hm : more ms l = true → Ext w0 w) (r : Rep n a e)
    (hk : ∀ e a w, Rep n a e → (more ms (l.setIfInBounds i true) = true → Ext w0 w) → denSc P tt ops w0 k K e w → AnyG P ops ms Q (fun w' => Ext w0 w') f (l.setIfInBounds i true) a w)
    (hW : ∀ p w', W p w' → (more ms (l.setIfInBounds i true) = true → Ext w0 w') ∧ p)
    (h : match ops.toList[i]? with | some o => gd ops o e (opK P tt o (ev e) (fun v w' => W (denSc P tt ops w0 k K (put e o.dst v) w') w') w) (denSc P tt ops w0 k K (put e o.dst undef) w) | none => False) :
    wpOp P ops Q i (fun a' w' => (more ms (l.setIfInBounds i true) = true → Ext w0 w') ∧ AnyG P ops ms Q (fun w' => Ext w0 w') f (l.setIfInBounds i true) a' w') a w := by
  unfold wpOp
  cases ho : ops.toList[i]? with
  | none => rw [ho] at h; exact h.elim
  | some o =>
    rw [ho] at h
    simp only at h
    have ho' : ops[i]? = some o := by simpa using ho
    have hom : o ∈ ops.toList := List.mem_of_getElem? ho
    rw [ho']
    simp only
    rcases wanted_gd r h with ⟨hwd, h⟩ | ⟨hwd, h⟩
    · rw [hwd]
      simp only [if_true]
      rw [← r.ev] at h
      refine .inl (opK_sound htt (fun v w' hk' => ?_) h)
      obtain ⟨h1, h2⟩ := hW _ _ hk'
      exact ⟨h1, hk _ _ _ (r.put o.dst v (dst_lt hd hom)) h1 h2⟩
    · rw [hwd]
      simp only [Bool.false_eq_true, if_false]
      exact ⟨fun hmm => hm (more_back hmm), hk _ _ _ (r.put o.dst undef (dst_lt hd hom)) (fun hmm => hm (more_back hmm)) h⟩

include htt in
theorem denSc_sound {n : Nat} {ops : Array Oper} {ms : List Nat} {w0 : World} (hd : dstOk n ops = true) (hsel : Region.noSelect ops = true) {K : Env → World → Prop} {Q : Exit → Act → World → Prop}
    (hQ : ∀ a w e, Rep n a e → K e w → Q .normal a w) (hQp : ∀ c a d v w, Q (.panic c) (a.put d v) w → Q (.panic c) a w) :
    ∀ (k : Sc) (l : Array Bool) (e : Env) (w : World) (a : Act), Rep n a e → k.ok ops ms l = true → k.even = true → l.size = ops.size →
      k.len = ((List.range ops.size).filter fun i => !l.getD i true).length → (more ms l = true → Ext w0 w) →
      denSc P tt ops w0 k K e w → AnyG P ops ms Q (fun w' => Ext w0 w') k.len l a w
  | .done, l, e, w, a, r, hok, _, _, _, _, h => AnyG.done (by simpa [Sc.ok] using hok) (hQ a w e r h) _
  | .take i s k, l, e, w, a, r, hok, hev, hs, hlen, hm, h => by
    simp only [Sc.ok, Bool.and_eq_true, beq_iff_eq] at hok
    obtain ⟨⟨⟨⟨⟨h0, h1⟩, h2⟩, h3⟩, h4⟩, h5⟩ := hok
    have hsm : s ∈ ms := by simpa using h0
    have hmem : i ∈ Region.ready .any ops l := by simpa using h4
    simp only [denSc, gdW] at h
    cases ho : ops.toList[i]? with
    | none => rw [ho] at h; exact h.elim
    | some o =>
      rw [ho] at h
      simp only at h
      have ho' : ops[i]? = some o := by simpa using ho
      have hom : o ∈ ops.toList := List.mem_of_getElem? ho
      have hw : Ext w0 w := hm (more_spec.2 ⟨s, hsm, h2⟩)
      have hst := left_step hs hmem
      have hlen' : k.len = ((List.range ops.size).filter fun j => !(l.setIfInBounds i true).getD j true).length := by
        simp only [Sc.len] at hlen; omega
      rcases wanted_gd r h with ⟨hwd, h⟩ | ⟨hwd, h⟩
      · rw [← r.ev] at h
        obtain ⟨v, hv, hk⟩ := rdK_sound htt h
        exact AnyG.take hsm ho' hsel h1 h2 h3 h4 (fun c a w => hQp c a _ _ w) (.inl ⟨hwd, hv⟩) hw
          (denSc_sound hd hsel hQ hQp k _ _ _ _ (r.put o.dst v (dst_lt hd hom)) h5 hev (by simpa using hs) hlen' (fun _ => hw) hk)
      · exact AnyG.take hsm ho' hsel h1 h2 h3 h4 (fun c a w => hQp c a _ _ w) (.inr ⟨hwd, rfl⟩) hw
          (denSc_sound hd hsel hQ hQp k _ _ _ _ (r.put o.dst undef (dst_lt hd hom)) h5 hev (by simpa using hs) hlen' (fun _ => hw) h)
  | .one i k, l, e, w, a, r, hok, hev, hs, hlen, hm, h => by
    simp only [Sc.ok, Bool.and_eq_true, beq_iff_eq] at hok
    obtain ⟨h1, h5⟩ := hok
    have hmem : i ∈ Region.ready .any ops l := by rw [h1]; simp
    have hst := left_step hs hmem
    have hlen' : k.len = ((List.range ops.size).filter fun j => !(l.setIfInBounds i true).getD j true).length := by
      simp only [Sc.len] at hlen; omega
    refine AnyG.all h1 (by simp) fun j hj => ?_
    have hji : j = i := by simpa using hj
    subst hji
    simp only [denSc, gdW] at h
    exact denSc_step (W := fun p w' => owed w0 w' k p) htt hd hmem hm r (fun e a w r hm h => denSc_sound hd hsel hQ hQp k _ e w a r h5 hev (by simpa using hs) hlen' hm h) (fun p w' h => owed_more (by simpa using hs) hlen' h) h
  | .fin i k, l, e, w, a, r, hok, hev, hs, hlen, hm, h => by
    simp only [Sc.ok, Bool.and_eq_true, beq_iff_eq, Bool.not_eq_true'] at hok
    obtain ⟨⟨h1, hno⟩, h5⟩ := hok
    have hmem : i ∈ Region.ready .any ops l := by rw [h1]; simp
    have hst := left_step hs hmem
    have hlen' : k.len = ((List.range ops.size).filter fun j => !(l.setIfInBounds i true).getD j true).length := by
      simp only [Sc.len] at hlen; omega
    refine AnyG.all h1 (by simp) fun j hj => ?_
    have hji : j = i := by simpa using hj
    subst hji
    simp only [denSc, gdW] at h
    exact denSc_step (W := fun p _ => p) htt hd hmem hm r (fun e a w r hm h => denSc_sound hd hsel hQ hQp k _ e w a r h5 hev (by simpa using hs) hlen' hm h) (fun p w' h => ⟨fun hmm => (by rw [hno] at hmm; cases hmm), h⟩) h
  | .two i ki j kj, l, e, w, a, r, hok, hev, hs, hlen, hm, h => by
    simp only [Sc.ok, Bool.and_eq_true, beq_iff_eq] at hok
    obtain ⟨⟨h1, h5⟩, h6⟩ := hok
    simp only [Sc.even, Bool.and_eq_true, beq_iff_eq] at hev
    obtain ⟨⟨hev1, hev2⟩, hevl⟩ := hev
    have hmemi : i ∈ Region.ready .any ops l := by rw [h1]; simp
    have hmemj : j ∈ Region.ready .any ops l := by rw [h1]; simp
    have hsti := left_step hs hmemi
    have hstj := left_step hs hmemj
    have hleni : ki.len = ((List.range ops.size).filter fun q => !(l.setIfInBounds i true).getD q true).length := by
      simp only [Sc.len] at hlen; omega
    have hlenj : kj.len = ((List.range ops.size).filter fun q => !(l.setIfInBounds j true).getD q true).length := by
      simp only [Sc.len] at hlen; omega
    simp only [denSc, gdW] at h
    obtain ⟨hi, hj⟩ := h
    refine AnyG.all h1 (by simp) fun q hq => ?_
    rcases (show q = i ∨ q = j by simpa using hq) with rfl | rfl
    · exact denSc_step (W := fun p w' => owed w0 w' ki p) htt hd hmemi hm r (fun e a w r hm h => denSc_sound hd hsel hQ hQp ki _ e w a r h5 hev1 (by simpa using hs) hleni hm h) (fun p w' h => owed_more (by simpa using hs) hleni h) hi
    · rw [show ki.len = kj.len from hevl]
      exact denSc_step (W := fun p w' => owed w0 w' kj p) htt hd hmemj hm r (fun e a w r hm h => denSc_sound hd hsel hQ hQp kj _ e w a r h6 hev2 (by simpa using hs) hlenj hm h) (fun p w' h => owed_more (by simpa using hs) hlenj h) hj
  | .three i ki j kj q kq, l, e, w, a, r, hok, hev, hs, hlen, hm, h => by
    simp only [Sc.ok, Bool.and_eq_true, beq_iff_eq] at hok
    obtain ⟨⟨⟨h1, h5⟩, h6⟩, h7⟩ := hok
    simp only [Sc.even, Bool.and_eq_true, beq_iff_eq] at hev
    obtain ⟨⟨⟨⟨hev1, hev2⟩, hev3⟩, hevl⟩, hevq⟩ := hev
    have hmemi : i ∈ Region.ready .any ops l := by rw [h1]; simp
    have hmemj : j ∈ Region.ready .any ops l := by rw [h1]; simp
    have hmemq : q ∈ Region.ready .any ops l := by rw [h1]; simp
    have hsti := left_step hs hmemi
    have hstj := left_step hs hmemj
    have hstq := left_step hs hmemq
    have hleni : ki.len = ((List.range ops.size).filter fun q => !(l.setIfInBounds i true).getD q true).length := by
      simp only [Sc.len] at hlen; omega
    have hlenj : kj.len = ((List.range ops.size).filter fun q => !(l.setIfInBounds j true).getD q true).length := by
      simp only [Sc.len] at hlen; omega
    have hlenq : kq.len = ((List.range ops.size).filter fun p => !(l.setIfInBounds q true).getD p true).length := by
      simp only [Sc.len] at hlen; omega
    simp only [denSc, gdW] at h
    obtain ⟨hi, hj, hq⟩ := h
    refine AnyG.all h1 (by simp) fun x hx => ?_
    rcases (show x = i ∨ x = j ∨ x = q by simpa using hx) with rfl | rfl | rfl
    · exact denSc_step (W := fun p w' => owed w0 w' ki p) htt hd hmemi hm r (fun e a w r hm h => denSc_sound hd hsel hQ hQp ki _ e w a r h5 hev1 (by simpa using hs) hleni hm h) (fun p w' h => owed_more (by simpa using hs) hleni h) hi
    · rw [show ki.len = kj.len from hevl]
      exact denSc_step (W := fun p w' => owed w0 w' kj p) htt hd hmemj hm r (fun e a w r hm h => denSc_sound hd hsel hQ hQp kj _ e w a r h6 hev2 (by simpa using hs) hlenj hm h) (fun p w' h => owed_more (by simpa using hs) hlenj h) hj
    · rw [show ki.len = kq.len from hevq]
      exact denSc_step (W := fun p w' => owed w0 w' kq p) htt hd hmemq hm r (fun e a w r hm h => denSc_sound hd hsel hQ hQp kq _ e w a r h7 hev3 (by simpa using hs) hlenq hm h) (fun p w' h => owed_more (by simpa using hs) hlenq h) hq

end

section
variable {P : Program} {tt : Nat → Option TI} (htt : ∀ t i, tt t = some i → tiOf P t = some i) (hmix : P.follows .mixedOrders = true)

include htt hmix in
theorem den_sound {n : Nat} {sc : Nat → Sc} : ∀ (c : Code) (K : Ks) (e : Env) (w : World) (a : Act), Rep n a e → chk n sc c = true → den P tt n sc c K e w → c.wp P (lift n K) a w
  | .skip, K, e, w, a, r, _, h => wp_skip ⟨e, r, h⟩
  | .region id ops draw, K, e, w, a, r, hc, h => by
    simp only [chk, Bool.and_eq_true, Bool.or_eq_true, Bool.not_eq_true', beq_iff_eq] at hc
    obtain ⟨hd, hc⟩ := hc
    cases draw with
    | false =>
      refine wp_region ?_
      have e1 := wpOps_eq_wpList (P := P) (Q := lift n K) (ops := ops) ops.toList 0 (fun j => by simp)
      rw [List.range_eq_range', show ops.size = ops.toList.length from by simp, e1]
      exact denL_sound htt hd (fun a w e r hk => ⟨e, r, hk⟩) ops.toList (fun _ h => h) e w a r h
    | true =>
      rcases hc with hc | ⟨⟨⟨hsel, hev⟩, hlen⟩, hok⟩
      · cases hc
      have hall : ((List.range ops.size).filter fun i => !(Array.replicate ops.size false).getD i true) = List.range ops.size := by
        apply List.filter_eq_self.2
        intro i hi
        have : i < ops.size := by simpa using hi
        simp [this]
      refine wp_region_G (ms := (sc id).wits) hmix (S := fun w' => Ext (drw w) w') ?_
      have H := denSc_sound (ms := (sc id).wits) (Q := lift n K) htt hd hsel (fun a w e r hk => ⟨e, r, hk⟩) (fun _ _ _ _ _ h => h) (sc id) _ e (drw w) a r hok hev (by simp) (by rw [hall]; simpa using hlen) (fun _ => Ext.refl _) h
      rw [hlen] at H
      exact H
  | .seq x y, K, e, w, a, r, hc, h => by
    simp only [chk, Bool.and_eq_true] at hc
    refine wp_seq (wp_mono (den_sound x _ e w a r hc.1 h) ?_)
    intro ex a' w' hq
    cases ex with
    | normal => obtain ⟨e', r', h'⟩ := hq; exact den_sound y K e' w' a' r' hc.2 h'
    | _ => exact hq
  | .cond c x y, K, e, w, a, r, hc, h => by
    simp only [chk, Bool.and_eq_true] at hc
    simp only [den] at h
    rw [← r.ev] at h
    split at h
    · rename_i hb
      exact wp_cond_true hb (den_sound x K e w a r hc.1 h)
    · rename_i hb
      exact wp_cond_false hb (den_sound y K e w a r hc.2 h)
    · exact h.elim
  | .block id c, K, e, w, a, r, hc, h => by
    simp only [chk] at hc
    refine wp_block (wp_mono (den_sound c _ e w a r hc h) ?_)
    intro ex a' w' hq
    cases ex with
    | exit i =>
      obtain ⟨e', r', h'⟩ := hq
      simp only [Exit.inBlock]
      by_cases hi : i = id
      · subst hi
        rw [if_pos rfl]
        simp only [Nat.beq_refl, cond_true] at h'
        exact ⟨e', r', h'⟩
      · rw [if_neg hi]
        have hb : Nat.beq i id = false := by
          cases hb : Nat.beq i id with
          | true => exact absurd (Nat.eq_of_beq_eq_true hb) hi
          | false => rfl
        simp only [hb, cond_false] at h'
        exact ⟨e', r', h'⟩
    | _ => exact hq
  | .loop c, K, e, w, a, r, hc, h => by
    simp only [chk] at hc
    obtain ⟨σ, I, μ, s0, h0, hr⟩ := h
    let J : σ → Act × World → Prop := fun s x => ∃ e, Rep n x.1 e ∧ I s e x.2
    refine wp_loop (fun a w => ∃ s, J s (a, w)) (fun a w => ghost J μ (a, w)) ⟨s0, e, r, h0⟩ ?_
    intro a w hI
    obtain ⟨⟨s, ⟨e, r, hs⟩, hμ⟩, _⟩ := ghost_spec (μ := μ) hI
    refine wp_mono (den_sound c _ e w a r hc (hr s e w hs)) ?_
    intro ex a' w' hq
    cases ex with
    | normal =>
      obtain ⟨e', r', s', h1, h2⟩ := hq
      have hJ : J s' (a', w') := ⟨e', r', h1⟩
      have := (ghost_spec (μ := μ) ⟨s', hJ⟩).2 s' hJ
      exact ⟨⟨s', hJ⟩, by rw [← hμ]; omega⟩
    | _ => exact hq
  | .exit id, K, e, w, a, r, _, h => wp_exit ⟨e, r, h⟩
  | .label _, K, e, w, a, r, _, h => wp_label ⟨e, r, h⟩
  | .goto l, K, e, w, a, r, _, h => wp_goto ⟨e, r, h⟩
  | .ret, K, e, w, a, r, _, h => wp_ret ⟨e, r, h⟩
  | .refuse _, _, _, _, _, _, _, h => h.elim
  | .scope c, K, e, w, a, r, _, h => h.run a r
  | .rangeFunc f ps x y, K, e, w, a, r, _, h => h.run a r

/-- a scope without jumps -/
theorem SemK.straight {n : Nat} {sc : Nat → Sc} {c : Code} {K : Ks} {e : Env} {w : World} (htt : ∀ t i, tt t = some i → tiOf P t = some i) (hmix : P.follows .mixedOrders = true)
    (hc : chk n sc c = true) (h : den P tt n sc c { K with gto := fun _ _ _ => False } e w) : SemK P n (.scope c) K e w := by
  refine ⟨fun a r => ?_⟩
  refine wp_scope_straight (wp_mono (den_sound htt hmix c _ e w a r hc h) ?_)
  intro ex a' w' hq
  cases ex with
  | goto l => obtain ⟨_, _, hf⟩ := hq; exact hf.elim
  | _ => exact hq

/-- a scope with jumps back to one label: what holds at each jump, and what each lowers -/
theorem SemK.jumps {n : Nat} {sc : Nat → Sc} {c rest : Code} {K : Ks} {e : Env} {w : World} (htt : ∀ t i, tt t = some i → tiOf P t = some i) (hmix : P.follows .mixedOrders = true)
    (l : Nat) (hf : findLabel c l = some rest) (hc : chk n sc c = true) (hr : chk n sc rest = true) {σ : Type} (I : σ → Env → World → Prop) (μ : σ → Nat)
    (first : den P tt n sc c { K with gto := fun l' e' w' => l' = l ∧ ∃ s, I s e' w' } e w)
    (pass : ∀ s e w, I s e w → den P tt n sc rest { K with gto := fun l' e' w' => l' = l ∧ ∃ s', I s' e' w' ∧ μ s' < μ s } e w) : SemK P n (.scope c) K e w := by
  refine ⟨fun a r => ?_⟩
  let J : σ → Act × World → Prop := fun s x => ∃ e, Rep n x.1 e ∧ I s e x.2
  refine wp_scope_jumps l (fun a w => ∃ s, J s (a, w)) (fun a w => ghost J μ (a, w)) hf ?_ ?_
  · refine wp_mono (den_sound htt hmix c _ e w a r hc first) ?_
    intro ex a' w' hq
    cases ex with
    | goto l' => obtain ⟨e', r', h1, s, h2⟩ := hq; exact ⟨h1, s, e', r', h2⟩
    | _ => exact hq
  · intro a w hI
    obtain ⟨⟨s, ⟨e, r, hs⟩, hμ⟩, _⟩ := ghost_spec (μ := μ) hI
    refine wp_mono (den_sound htt hmix rest _ e w a r hr (pass s e w hs)) ?_
    intro ex a' w' hq
    cases ex with
    | goto l' =>
      obtain ⟨e', r', h1, s', h2, h3⟩ := hq
      have hJ : J s' (a', w') := ⟨e', r', h2⟩
      have := (ghost_spec (μ := μ) ⟨s', hJ⟩).2 s' hJ
      exact ⟨h1, ⟨s', hJ⟩, by rw [← hμ]; omega⟩
    | _ => exact hq

/-! ## A function as a whole -/

def resK (tt : Nat → Option TI) : List ResultVar → Env → World → (List Value → Prop) → Prop
  | [], _, _, K => K []
  | .tmp t :: rs, e, w, K => resK tt rs e w fun vs => K (e t :: vs)
  | .cell a t :: rs, e, w, K =>
    match tt t, e a with
    | some i, .pointer (some ad) => LdK i ad w fun v => resK tt rs e w fun vs => K (v :: vs)
    | _, _ => False

def retV : List Value → Value
  | [v] => v
  | vs => .tuple vs.toArray

def rvS (tmps : Array Value) : ResultVar → Sem Value
  | .tmp t => pure (tmps.getD t undef)
  | .cell a t => do loadVar t (← asAddr (tmps.getD a undef))

theorem run_results_list {rs : List ResultVar} : ∀ {e : Env} {w : World} {K : List Value → Prop} {tmps : Array Value}, (∀ i, tmps.getD i undef = e i) → (∀ t i, tt t = some i → tiOf P t = some i) → resK tt rs e w K →
    ∃ vs, (rs.mapM (rvS tmps)).run P w = .ok vs w ∧ K vs := by
  induction rs with
  | nil => intro e w K tmps _ _ h; exact ⟨[], by simp, h⟩
  | cons x rs ih =>
    intro e w K tmps ht htt h
    cases x with
    | tmp t =>
      obtain ⟨vs, hv, hk⟩ := ih ht htt h
      refine ⟨_, ?_, hk⟩
      simp only [List.mapM_cons, rvS, Sem.run_bind, Sem.run_pure, Result.andThen_ok, hv, ht t]
    | cell a t =>
      simp only [resK] at h
      split at h
      · rename_i i ad hi had
        obtain ⟨v, hv, h⟩ := run_loadVar_of (htt _ _ hi) h
        obtain ⟨vs, hvs, hk⟩ := ih ht htt h
        refine ⟨_, ?_, hk⟩
        have h1 : (rvS tmps (.cell a t)).run P w = .ok v w := by
          simp only [rvS, ht a, had, Sem.run_bind]
          rw [show (asAddr (.pointer (some ad))).run P w = .ok ad w from rfl]
          exact hv w (Ext.refl w)
        simp only [List.mapM_cons, Sem.run_bind, h1, Result.andThen_ok, hvs, Sem.run_pure]
      · exact h.elim

theorem run_results {fn : Func} {e : Env} {w : World} {K : List Value → Prop} {tmps : Array Value} (ht : ∀ i, tmps.getD i undef = e i) (htt : ∀ t i, tt t = some i → tiOf P t = some i)
    (h : resK tt fn.results.toList e w K) : ∃ vs, (results fn tmps).run P w = .ok (retV vs) w ∧ K vs := by
  obtain ⟨vs, hv, hk⟩ := run_results_list ht htt h
  refine ⟨vs, ?_, hk⟩
  have e1 : results fn tmps = (do let vs ← fn.results.mapM (rvS tmps); pure (if h : vs.size = 1 then vs[0] else .tuple vs)) := by
    unfold results
    congr 2
  rw [e1, Array.mapM_eq_mapM_toList]
  simp only [Sem.run_bind, Sem.run_map, hv, Result.andThen_ok, Sem.run_pure]
  congr 1
  match vs with
  | [] => rfl
  | [v] => simp [retV]
  | v :: u :: r => simp [retV]

/-- what a function's own post asks -/
def fnK (tt : Nat → Option TI) (rs : List ResultVar) (R : Value → World → Prop) : Ks where
  nrm := fun e w => resK tt rs e w fun vs => R (retV vs) w
  ext := fun _ _ _ => False
  gto := fun _ _ _ => False
  ret := fun e w => resK tt rs e w fun vs => R (retV vs) w

theorem callK_of_den {n : Nat} {sc : Nat → Sc} {f : FuncId} {fn : Func} {c : Code} {rs : List ResultVar} {args : List Value} {w : World} {R : Value → World → Prop}
    (htt : ∀ t i, tt t = some i → tiOf P t = some i) (hmix : P.follows .mixedOrders = true) (hcall : callable P f = true)
    (hf : P.funcs[f]? = some fn) (hb : fn.body = some c) (hrs : fn.results.toList = rs) (hn : fn.ntmps = n) (hlen : Nat.ble args.length n = true) (hchk : chk n sc c = true)
    (h : den P tt n sc c (fnK tt rs R) (env0 args) w) : CallK P f args R w := by
  subst hrs
  refine ⟨.inl ⟨hcall, calls_of_wp hf hb ?_⟩⟩
  have hl := Nat.le_of_ble_eq_true hlen
  have r : Rep n { tmps := args.toArray ++ Array.replicate (fn.ntmps - args.toArray.size) undef, defers := [] } (env0 args) := by
    refine ⟨by simp; omega, rfl, fun i => ?_⟩
    simp only [env0, Array.getD_eq_getD_getElem?, Array.getElem?_append, List.getD_eq_getElem?_getD, List.size_toArray, List.getElem?_toArray]
    by_cases hi : i < args.length
    · rw [if_pos hi]
    · rw [if_neg hi, List.getElem?_eq_none (by omega)]
      simp only [Array.getElem?_replicate]
      split <;> rfl
  refine wp_mono (den_sound htt hmix c _ _ w _ r hchk h) ?_
  intro ex a' w' hq
  cases ex with
  | normal =>
    obtain ⟨e, r', hk⟩ := hq
    obtain ⟨vs, hv, hk⟩ := run_results (fun i => r'.at_ i) htt hk
    exact ⟨r'.nod, retV vs, hv, _, rfl, hk⟩
  | ret =>
    obtain ⟨e, r', hk⟩ := hq
    obtain ⟨vs, hv, hk⟩ := run_results (fun i => r'.at_ i) htt hk
    exact ⟨r'.nod, retV vs, hv, _, rfl, hk⟩
  | exit i => obtain ⟨_, _, hf⟩ := hq; exact hf.elim
  | goto i => obtain ⟨_, _, hf⟩ := hq; exact hf.elim
  | panic _ => exact hq.elim
  | outgrown => exact hq.elim

theorem CallK.mono {f : FuncId} {args : List Value} {w : World} {R R' : Value → World → Prop} (h : CallK P f args R w) (hr' : ∀ v w', R v w' → R' v w') : CallK P f args R' w :=
  ⟨h.run.imp (fun ⟨hc, hr⟩ => ⟨hc, hr.mono fun _ _ ⟨v, he, hk⟩ => ⟨v, he, hr' _ _ hk⟩⟩) fun ⟨v, w', hc, hk⟩ => ⟨v, w', hc, hr' _ _ hk⟩⟩

theorem CallK.calls {f : FuncId} {args : List Value} {w : World} {R : Value → World → Prop} (h : CallK P f args R w) (hc : callable P f = true) : Calls P f args.toArray w fun e w' => ∃ v, e = .returned v ∧ R v w' := by
  rcases h.run with ⟨_, h⟩ | ⟨v, w', h, _⟩
  · exact h
  · rw [run_callFunc hc] at h; cases h

end

/-! ## The steps of a walk -/

theorem tsT {p : Prop} {K : Bool → Prop} (h : p) (hk : K true) : tsK p K := ⟨fun _ => hk, fun n => absurd h n⟩
theorem tsF {p : Prop} {K : Bool → Prop} (h : ¬ p) (hk : K false) : tsK p K := ⟨fun y => absurd y h, fun _ => hk⟩
theorem ts {p : Prop} {K : Bool → Prop} (h1 : p → K true) (h2 : ¬ p → K false) : tsK p K := ⟨h1, h2⟩
theorem nm {k : IntKind} {x v : Int} {K : Value → Prop} (h : x = v) (hk : K (.int k v)) : nmK k x K := ⟨v, h, hk⟩

theorem ld {h : Array Obj} {a : Addr} {v : Value} {K : Value → Prop} (hc : cel h a = some v) (hk : K v) : ∃ v, cel h a = some v ∧ K v := ⟨v, hc, hk⟩

theorem cel_blk {h : Array Obj} {b o : Nat} {cs : List Value} {t : TypeId} {fz : Nat × Nat} {v : Value} (hb : h[b]? = some (.cells (List.toArray cs) t fz)) (hv : cs[o]? = some v) : cel h ⟨b, o, none⟩ = some v := by
  simp [cel, hb, hv]

theorem ldB {h : Array Obj} {b o : Nat} {cs : List Value} {t : TypeId} {fz : Nat × Nat} {v : Value} {K : Value → Prop} (hb : h[b]? = some (.cells (List.toArray cs) t fz)) (hv : cs[o]? = some v) (hk : K v) : ∃ v, cel h ⟨b, o, none⟩ = some v ∧ K v :=
  ⟨v, cel_blk hb hv, hk⟩

theorem add_off (b o n : Nat) : (⟨b, o, none⟩ : Addr).add n = ⟨b, o + n, none⟩ := by unfold Addr.add; split <;> simp_all

theorem celsAt_blk {h : Array Obj} {b o : Nat} {cs cs1 : List Value} {t : TypeId} {fz : Nat × Nat} (hb : h[b]? = some (.cells (List.toArray cs) t fz)) (hv : (cs.drop o).take cs1.length = cs1) : celsAt h ⟨b, o, none⟩ cs1 := by
  intro j v hj
  rw [add_off]
  refine cel_blk hb ?_
  rw [← hv] at hj
  rw [List.getElem?_take] at hj
  split at hj
  · rwa [List.getElem?_drop] at hj
  · cases hj

theorem celsAt_cells {h : Array Obj} {b o : Nat} {cs : List Value} (hc : ∀ j v, cs[j]? = some v → cel h ⟨b, o + j, none⟩ = some v) : celsAt h ⟨b, o, none⟩ cs := by
  intro j v hj
  rw [add_off]; exact hc j v hj

theorem HExt.cels {h h' : Array Obj} (x : HExt h h') {a : Addr} {cs : List Value} (hc : celsAt h a cs) : celsAt h' a cs := fun j v hj => x.cel (hc j v hj)

/-- a whole struct is read -/
theorem ldA {h : Array Obj} {n : Nat} {a : Addr} {cs : List Value} {K : Value → Prop} (hc : celsAt h a cs) (hl : cs.length = n) (hk : K (.agg cs.toArray)) :
    ∃ cs : List Value, cs.length = n ∧ celsAt h a cs ∧ K (.agg cs.toArray) := ⟨cs, hl, hc, hk⟩
theorem ldAB {h : Array Obj} {n b o : Nat} {cs cs1 : List Value} {t : TypeId} {fz : Nat × Nat} {K : Value → Prop} (hb : h[b]? = some (.cells (List.toArray cs) t fz)) (hv : (cs.drop o).take cs1.length = cs1) (hl : cs1.length = n) (hk : K (.agg cs1.toArray)) :
    ∃ cs : List Value, cs.length = n ∧ celsAt h ⟨b, o, none⟩ cs ∧ K (.agg cs.toArray) := ⟨cs1, hl, celsAt_blk hb hv, hk⟩

/-- a store into a block of the call's own -/
theorem st {n b o : Nat} {cs0 cs : List Value} {t : TypeId} {K : World → Prop} {w : World} (hb : w.heap[b]? = some (.cells (List.toArray cs0) t (0, 0))) (hn : cs.length = n) (hfit : Nat.ble (o + cs.length) cs0.length = true) (hf : cs.all flat = true)
    (hk : ∀ w', Upd w w' b (.cells (setL cs0 o cs).toArray t (0, 0)) → K w') : StK n ⟨b, o, none⟩ cs K w := .mk cs0 t hb rfl hn hfit hf hk

/-- a new block -/
theorem al {cs : List Value} {t : TypeId} {K : Nat → World → Prop} {w : World} (h : ∀ b w', b = w.heap.size → Ext w w' → w'.heap.size = b + 1 → w'.heap[b]? = some (.cells cs.toArray t (0, 0)) → K b w') : AlK cs t K w := ⟨h⟩

/-- an element's place -/
theorem ix {b o j len esz : Nat} {K : Value → Prop} {n : Int} (hn : n = j) (hj : j < len) (hk : K (.pointer (some ⟨b, o + j * esz, none⟩))) : IxK ⟨b, o, none⟩ n len esz K := by
  subst hn
  exact .mk _ (by omega) (by omega) (add_off _ _ _) hk

/-- a call by its contract -/
theorem cl {P : Program} {f : FuncId} {args : List Value} {w : World} {R K : Value → World → Prop} (h : CallK P f args R w) (hk : ∀ v w', R v w' → K v w') : CallK P f args K w := h.mono hk

theorem wr64 {a b : Int} (h : a = b) (h1 : -9223372036854775808 ≤ b) (h2 : b ≤ 9223372036854775807) : IntKind.i64.wrap a = b := by
  subst h
  simp only [IntKind.wrap, IntKind.bits, IntKind.signed]
  simp only [Bool.true_and]
  split
  · rename_i h; simp only [ge_iff_le, decide_eq_true_eq] at h; omega
  · rename_i h; simp only [ge_iff_le, decide_eq_true_eq] at h; omega
theorem wru64 {a b : Int} (h : a = b) (h1 : 0 ≤ b) (h2 : b ≤ 18446744073709551615) : IntKind.u64.wrap a = b := by
  subst h
  simp only [IntKind.wrap, IntKind.bits, IntKind.signed]
  simp only [Bool.false_and, Bool.false_eq_true, if_false]
  omega
theorem wru64m (a : Int) : IntKind.u64.wrap a = a % 18446744073709551616 := by
  simp only [IntKind.wrap, IntKind.bits, IntKind.signed]
  simp only [Bool.false_and, Bool.false_eq_true, if_false]
  rfl

theorem Upd.old {w w' : World} {b : Nat} {o : Obj} (u : Upd w w' b o) {c : Nat} (h : c ≠ b) {p : Obj} (hc : w.heap[c]? = some p) : w'.heap[c]? = some p := (u.2.2.1 c h).trans hc
theorem Upd.new {w w' : World} {b : Nat} {o : Obj} (u : Upd w w' b o) : w'.heap[b]? = some o := u.2.1

theorem Ext.blk {w w' : World} (x : Ext w w') {b : Nat} {o : Obj} (hb : w.heap[b]? = some o) : w'.heap[b]? = some o := x.1.blk hb
theorem Ext.cel {w w' : World} (x : Ext w w') {a : Addr} {v : Value} (hc : Pan.cel w.heap a = some v) : Pan.cel w'.heap a = some v := x.1.cel hc

/-! ### append, to a slice of the call's own -/

theorem oneCell_of_flat {cs : List Value} (h : cs.all flat = true) : ∀ v ∈ cs, v.oneCell' = true := fun v hv => by
  have := List.all_eq_true.1 h v hv
  cases v <;> first | rfl | (simp [flat] at this)

theorem app {P : Program} {tt : Nat → Option TI} (htt : ∀ t i, tt t = some i → tiOf P t = some i) {o : Oper} {ρ : Operand → Value} {K : Value → World → Prop} {w : World} {s x : Operand} {t : TypeId}
    (ho : o.op = .call { callee := .builtin .append, args := #[s, x], argTypes := #[t, t] }) {a b : Nat} {c : Bool} {z : List Value} {e : TypeId} {esz : Nat} (ht : tt t = some ⟨a, b, c, z, .slice e esz⟩)
    {ie : TI} (he : tt e = some ie) (hsz : ie.size = esz) (hpos : 0 < esz) (hzl : ie.zero.length = esz)
    {base : Nat} {v : Value} {n : Nat} {xs : List Value} (hv : ρ s = v) (hown : w.ownsRow base e esz v n xs) {ad : Addr} {m cp : Nat} {news : List Value} (hx : ρ x = .slice (some ad) m cp)
    (hl : news.length = m * esz) (hc : celsAt w.heap ad news) (hf : news.all flat = true) (h1 : n + m ≤ 4294967296) (h2 : ie.bytes ≤ 1024) (hb : base ≤ w.heap.size)
    (hk : ∀ v' w', w'.ownsRow base e esz v' (n + m) (xs ++ news) → w.grownBy w' v.ownBlock → (v' = .slice none 0 0 ↔ v = .slice none 0 0 ∧ m = 0) → K v' w') : GenK P o ρ K w := by
  obtain ⟨i1, d1, z1, o1⟩ := tiOf_spec (htt _ _ ht)
  obtain ⟨i2, d2, z2, o2⟩ := tiOf_spec (htt _ _ he)
  obtain ⟨hd, _, _⟩ := kind_slice o1.kind
  subst hd
  have hm : (n + m) * ie.bytes ≤ 140737488355328 := Nat.le_trans (Nat.mul_le_mul h1 h2) (by decide)
  obtain ⟨v', w', hr, ho', hg, hn⟩ := run_append_own (P := P) w base t o.type e i2 z2 esz ie.bytes o1.und o2.info o2.zero (by rw [o2.size, hsz]) o2.bytes (by rw [← Array.length_toList, o2.zcells, hzl]) hpos v n xs hown ad m cp news hl
    (fun j u hj => hc j u hj) (oneCell_of_flat hf) (by unfold maxLen; omega) hm hb
  refine ⟨?_⟩
  have : (execOp ρ o).run P w = .ok (.value v') w' := by
    simp only [execOp, ho, resolve, Sem.run_bind, Sem.run_pure, Result.andThen_ok, invoke, builtin]
    have e1 : (#[s, x] : Array Operand).map ρ = #[v, .slice (some ad) m cp] := by simp [hv, hx]
    rw [e1, hr]
    rfl
  rw [this]
  exact hk v' w' ho' hg hn

theorem app_nil {P : Program} {tt : Nat → Option TI} (htt : ∀ t i, tt t = some i → tiOf P t = some i) {o : Oper} {ρ : Operand → Value} {K : Value → World → Prop} {w : World} {s x : Operand} {t : TypeId}
    (ho : o.op = .call { callee := .builtin .append, args := #[s, x], argTypes := #[t, t] }) {a b : Nat} {c : Bool} {z : List Value} {e : TypeId} {esz : Nat} (ht : tt t = some ⟨a, b, c, z, .slice e esz⟩)
    {base : Nat} {v : Value} {n : Nat} {xs : List Value} (hv : ρ s = v) (hown : w.ownsRow base e esz v n xs) {cp : Nat} (hx : ρ x = .slice none 0 cp) (hk : K v w) : GenK P o ρ K w := by
  obtain ⟨i1, d1, z1, o1⟩ := tiOf_spec (htt _ _ ht)
  obtain ⟨hd, hs, he⟩ := kind_slice o1.kind
  subst hd
  refine ⟨?_⟩
  have : (execOp ρ o).run P w = .ok (.value v) w := by
    simp only [execOp, ho, resolve, Sem.run_bind, Sem.run_pure, Result.andThen_ok, invoke, builtin]
    have e1 : (#[s, x] : Array Operand).map ρ = #[v, .slice none 0 cp] := by simp [hv, hx]
    rw [e1]
    obtain ⟨i, hi⟩ := Option.isSome_iff_exists.1 he
    rcases hown.2 with ⟨rfl, rfl⟩ | ⟨g, cap, cur, rfl, _, _, hc, _⟩
    · simp [Builtin.append_, run_und w o1.und, run_sz w he, Builtin.lenOf, Builtin.firstCells]
    · simp [Builtin.append_, run_und w o1.und, run_sz w he, Builtin.lenOf, Builtin.firstCells, hc, storeCells]
  rw [this]
  exact hk

/-- what a slice of the call's own is, as a block -/
theorem own_blk {w : World} {base : Nat} {e : TypeId} {size : Nat} {v : Value} {n : Nat} {xs : List Value} (h : w.ownsRow base e size v n xs) (hv : v ≠ .slice none 0 0) :
    ∃ g cap rest, v = .slice (some ⟨g, 0, none⟩) n cap ∧ base ≤ g ∧ w.heap[g]? = some (.cells (xs ++ rest).toArray e (0, 0)) := by
  rcases h.2 with ⟨rfl, _⟩ | ⟨g, cap, cur, rfl, hb, hg, _, _, _, ht⟩
  · exact absurd rfl hv
  · refine ⟨g, cap, cur.toList.drop (n * size), rfl, hb, ?_⟩
    rw [hg, ← ht, List.take_append_drop, Array.toArray_toList]

theorem own_new {w : World} {base b e size : Nat} (hb : base ≤ b) (h : w.heap[b]? = some (.cells (List.toArray []) e (0, 0))) : w.ownsRow base e size (.slice (some ⟨b, 0, none⟩) 0 0) 0 [] :=
  ⟨by simp, .inr ⟨b, 0, #[], rfl, hb, h, Nat.le_refl _, by simp [maxLen], by simp, by simp⟩⟩
theorem own_none (w : World) (base e size : Nat) : w.ownsRow base e size (.slice none 0 0) 0 [] := World.ownsRow_nil w base e size

theorem Ext.grown {w0 w w' : World} {row : Option Nat} (h : Ext w0 w) (g : w.grownBy w' row) (hr : ∀ k, row = some k → w0.heap.size ≤ k) : Ext w0 w' :=
  ⟨⟨Nat.le_trans h.1.1 g.size, fun k hk => (g.block k (Nat.lt_of_lt_of_le hk h.1.1) (fun e => by have := hr k e.symm; omega)).trans (h.1.2 k hk)⟩, g.os.trans h.2.1, g.tape.trans h.2.2.1, g.output.trans h.2.2.2⟩

theorem own_row {w : World} {base : Nat} {e : TypeId} {size : Nat} {v : Value} {n : Nat} {xs : List Value} (h : w.ownsRow base e size v n xs) : ∀ k, v.ownBlock = some k → base ≤ k := fun k hk => (h.lt k hk).1

/-! ### frames at a loop's head -/

def upds (e : Env) : List (Nat × Value) → Env
  | [] => e
  | (i, v) :: r => upd (upds e r) i v
def Has (e : Env) : List (Nat × Value) → Prop
  | [] => True
  | (i, v) :: r => e i = v ∧ Has e r

theorem upd_self {e : Env} {i : Nat} {v : Value} (h : e i = v) : upd e i v = e := by
  funext j
  unfold upd
  cases hb : Nat.beq j i with
  | true => rw [Nat.eq_of_beq_eq_true hb, h]; rfl
  | false => rfl
theorem Has.upds {e : Env} : ∀ {l : List (Nat × Value)}, Has e l → Pan.upds e l = e
  | [], _ => rfl
  | (i, v) :: r, h => by
    simp only [Pan.upds]
    rw [Has.upds h.2]
    exact upd_self h.1

/-- a loop: 's' tells the slots that matter, and what holds -/
theorem lp {body : (Env → World → Prop) → Env → World → Prop} {e : Env} {w : World} {σ : Type} (L : σ → List (Nat × Value)) (J : σ → World → Prop) (μ : σ → Nat) (s0 : σ) (h0 : Has e (L s0)) (j0 : J s0 w)
    (round : ∀ s e w, J s w → body (fun e' w' => ∃ s', (Has e' (L s') ∧ J s' w') ∧ μ s' < μ s) (upds e (L s)) w) : LoopK body e w :=
  .mk σ (fun s e w => Has e (L s) ∧ J s w) μ s0 ⟨h0, j0⟩ fun s e w ⟨h1, h2⟩ => by
    have := round s e w h2
    rw [h1.upds] at this
    exact this

/-- a scope whose label the run jumps back to -/
theorem jp {P : Program} {tt : Nat → Option TI} {n : Nat} {sc : Nat → Sc} {c rest : Code} {K : Ks} {e : Env} {w : World} (htt : ∀ t i, tt t = some i → tiOf P t = some i) (hmix : P.follows .mixedOrders = true)
    (l : Nat) (hf : findLabel c l = some rest) (hc : chk n sc c = true) (hr : chk n sc rest = true) {σ : Type} (L : σ → List (Nat × Value)) (J : σ → World → Prop) (μ : σ → Nat)
    (first : den P tt n sc c { K with gto := fun l' e' w' => l' = l ∧ ∃ s, Has e' (L s) ∧ J s w' } e w)
    (pass : ∀ s e w, J s w → den P tt n sc rest { K with gto := fun l' e' w' => l' = l ∧ ∃ s', (Has e' (L s') ∧ J s' w') ∧ μ s' < μ s } (upds e (L s)) w) : SemK P n (.scope c) K e w :=
  .jumps htt hmix l hf hc hr (fun s e w => Has e (L s) ∧ J s w) μ first fun s e w ⟨h1, h2⟩ => by
    have := pass s e w h2
    rw [h1.upds] at this
    exact this

/-! ## Lists of numbers in memory -/

/-- a number as a value: a coordinate, a sum -/
abbrev U (n : Nat) : Value := .int .u64 n
abbrev I (n : Int) : Value := .int .i64 n

/-- the slice value v reads as the list p of coordinates -/
inductive Sl (h : Array Obj) : Value → List Nat → Prop where
  | nil (a : Option Addr) (cap : Nat) : Sl h (.slice a 0 cap) []
  | some (b o cap : Nat) (p : List Nat) (hc : ∀ j c, p[j]? = Option.some c → cel h ⟨b, o + j, none⟩ = Option.some (U c)) (hs : ∀ c ∈ p, c < 2 ^ 64) : Sl h (.slice (Option.some ⟨b, o, none⟩) p.length cap) p

theorem Sl.ext {h h' : Array Obj} (x : HExt h h') {v : Value} {p : List Nat} (s : Sl h v p) : Sl h' v p := by
  cases s with
  | nil a cap => exact .nil a cap
  | some b o cap _ hc hs => exact .some b o cap p (fun j c hj => x.cel (hc j c hj)) hs

theorem Sl.small {h : Array Obj} {v : Value} {p : List Nat} (s : Sl h v p) : ∀ c ∈ p, c < 2 ^ 64 := by
  cases s with
  | nil => simp
  | some b o cap _ hc hs => exact hs

/-- a slice as far as its length goes: nil, or a place -/
theorem Sl.form {h : Array Obj} {v : Value} {p : List Nat} (s : Sl h v p) : ∃ a cap, v = .slice a p.length cap := by
  cases s with
  | nil => exact ⟨_, _, rfl⟩
  | some b o cap _ hc hs => exact ⟨_, _, rfl⟩

end Go.Pan
