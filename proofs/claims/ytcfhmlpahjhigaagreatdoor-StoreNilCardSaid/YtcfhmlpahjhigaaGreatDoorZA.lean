/- The abstract interpreter, part 1: tries, abstract values, abstract state, and the relation to the model's worlds. -/
import Derived.Below
import Derived.RangeFuncLeaves
import Derived.OrdersIn
import Derived.KernelRfl
namespace Go.AI
noncomputable section

/-! ### Tries: finite maps from numbers -/

inductive T (α : Type) where
  | nil
  | node (v : Option α) (l r : T α)

namespace T
variable {α : Type}

/-! By recursors whose branches are constants: quick in the kernel. -/

def gNil : Nat → Option α := fun _ => none
def pick2 {β : Type} (a b : β) (m : Nat) : β := Nat.rec (motive := fun _ => β) a (fun _ _ => b) m
def gOne (gl gr : Nat → Option α) (j : Nat) (_ : Option α) : Option α := Nat.rec (motive := fun _ => Nat → Option α) gl (fun _ _ => gr) (Nat.mod j 2) (Nat.div j 2)
def gNode (v : Option α) (_ _ : T α) (gl gr : Nat → Option α) (k : Nat) : Option α := Nat.rec (motive := fun _ => Option α) v (gOne gl gr) k
def get (t : T α) : Nat → Option α := T.rec (motive := fun _ => Nat → Option α) gNil gNode t

/-- A node's left, right child is laid; it is forced first. -/
def lN (v : Option α) (r : T α) (a : Option α) (b c : T α) (_ _ : T α) : T α := .node v (.node a b c) r
def rN (v : Option α) (l : T α) (a : Option α) (b c : T α) (_ _ : T α) : T α := .node v l (.node a b c)
def mkL (v : Option α) (r t : T α) : T α := T.rec (motive := fun _ => T α) (.node v .nil r) (lN v r) t
def mkR (v : Option α) (l t : T α) : T α := T.rec (motive := fun _ => T α) (.node v l .nil) (rN v l) t

def oneStep (_ : Option α) (f : Nat → T α) (j : Nat) (_ : T α) : T α := Nat.rec (motive := fun _ => T α → T α) (mkL none .nil) (fun _ _ => mkR none .nil) (Nat.mod j 2) (f (Nat.div j 2))
def oneSucc (x : Option α) (_ : Nat) (f : Nat → T α) (k : Nat) : T α := Nat.rec (motive := fun _ => T α) (.node x .nil .nil) (oneStep x f) k
/-- One item alone. -/
def one (x : Option α) (n : Nat) : Nat → T α := Nat.rec (motive := fun _ => Nat → T α) (fun _ => .nil) (oneSucc x) n

def pNil (k : Nat) (x : Option α) : T α := one x (k + 1) k
abbrev PF (α : Type) := Nat → Option α → T α
def pL (v : Option α) (_ r : T α) (pl _ : PF α) (j : Nat) (x : Option α) : T α := mkL v r (pl j x)
def pR (v : Option α) (l _ : T α) (_ pr : PF α) (j : Nat) (x : Option α) : T α := mkR v l (pr j x)
def pOne (v : Option α) (l r : T α) (pl pr : PF α) (x : Option α) (j : Nat) (_ : T α) : T α :=
  Nat.rec (motive := fun _ => Option α → T α → T α → PF α → PF α → Nat → Option α → T α) pL (fun _ _ => pR) (Nat.mod j 2) v l r pl pr (Nat.div j 2) x
def pNode (v : Option α) (l r : T α) (pl pr : PF α) (k : Nat) (x : Option α) : T α := Nat.rec (motive := fun _ => T α) (.node x l r) (pOne v l r pl pr x) k
def put (t : T α) : PF α := T.rec (motive := fun _ => PF α) pNil pNode t
def set (t : T α) (k : Nat) (x : α) : T α := t.put k (some x)

@[simp] theorem get_nil (k : Nat) : (T.nil : T α).get k = none := rfl

theorem rec_mod {β : Type} (a b : β) (k : Nat) : (Nat.rec (motive := fun _ => β) a (fun _ _ => b) (Nat.mod k 2) : β) = if k % 2 = 0 then a else b := by
  show (Nat.rec (motive := fun _ => β) a (fun _ _ => b) (k % 2) : β) = _
  rcases Nat.mod_two_eq_zero_or_one k with h | h <;> rw [h] <;> rfl

theorem get_node_succ (v : Option α) (l r : T α) (k : Nat) :
    (T.node v l r).get (k + 1) = if k % 2 = 0 then l.get (k / 2) else r.get (k / 2) := by
  show (Nat.rec (motive := fun _ => Nat → Option α) l.get (fun _ _ => r.get) (Nat.mod k 2)) (Nat.div k 2) = _
  rw [rec_mod]
  split <;> rfl

@[simp] theorem get_node_zero (v : Option α) (l r : T α) : (T.node v l r).get 0 = v := rfl

theorem mkL_eq (v : Option α) (r t : T α) : mkL v r t = .node v t r := by cases t <;> rfl
theorem mkR_eq (v : Option α) (l t : T α) : mkR v l t = .node v l t := by cases t <;> rfl

theorem one_succ (x : Option α) (n k : Nat) : one x (n + 1) (k + 1) = if k % 2 = 0 then .node none (one x n (k / 2)) .nil else .node none .nil (one x n (k / 2)) := by
  show (Nat.rec (motive := fun _ => T α → T α) (mkL none .nil) (fun _ _ => mkR none .nil) (Nat.mod k 2)) (one x n (k / 2)) = _
  rw [rec_mod]
  split <;> simp only [mkL_eq, mkR_eq]

theorem get_one (x : Option α) : ∀ (n k : Nat), k < n → ∀ j, (one x n k).get j = if j = k then x else none
  | 0, k, h, _ => by omega
  | n + 1, 0, _, j => by
    show (T.node x .nil .nil).get j = _
    cases j with
    | zero => simp
    | succ j => simp [get_node_succ]
  | n + 1, k + 1, h, j => by
    rw [one_succ]
    have ih := get_one x n (k / 2) (by omega)
    cases j with
    | zero => split <;> simp
    | succ j =>
      split <;> (rw [get_node_succ]; by_cases hj : j % 2 = 0 <;> simp [hj, ih])
      · by_cases e : j = k
        · subst e; simp
        · have : j / 2 ≠ k / 2 := by omega
          simp [e, this]
      · have : j ≠ k := by rintro rfl; omega
        simp [this]
      · have : j ≠ k := by rintro rfl; omega
        simp [this]
      · by_cases e : j = k
        · subst e; simp
        · have : j / 2 ≠ k / 2 := by omega
          simp [e, this]

theorem put_node_succ (v : Option α) (l r : T α) (k : Nat) (x : Option α) : (T.node v l r).put (k + 1) x = if k % 2 = 0 then .node v (l.put (k / 2) x) r else .node v l (r.put (k / 2) x) := by
  show (Nat.rec (motive := fun _ => Option α → T α → T α → PF α → PF α → Nat → Option α → T α) pL (fun _ _ => pR) (Nat.mod k 2)) v l r l.put r.put (Nat.div k 2) x = _
  rw [rec_mod]
  split
  · exact mkL_eq _ _ _
  · exact mkR_eq _ _ _

theorem get_put (t : T α) (k : Nat) (x : Option α) (j : Nat) : (t.put k x).get j = if j = k then x else t.get j := by
  induction t generalizing k j with
  | nil => exact get_one x (k + 1) k (Nat.lt_succ_self k) j
  | node v l r ihl ihr =>
    cases k with
    | zero =>
      show (T.node x l r).get j = _
      cases j with
      | zero => simp
      | succ j => simp [get_node_succ]
    | succ k =>
      rw [put_node_succ]
      cases j with
      | zero => split <;> simp
      | succ j =>
        split <;> (rw [get_node_succ, get_node_succ]; by_cases hj : j % 2 = 0 <;> simp [hj, ihl, ihr])
        · by_cases e : j = k
          · subst e; simp
          · have : j / 2 ≠ k / 2 := by omega
            simp [e, this]
        · intro e; subst e; omega
        · intro e; subst e; omega
        · by_cases e : j = k
          · subst e; simp
          · have : j / 2 ≠ k / 2 := by omega
            simp [e, this]

theorem get_set (t : T α) (k : Nat) (x : α) (j : Nat) : (t.set k x).get j = if j = k then some x else t.get j := get_put _ _ _ _
@[simp] theorem get_set_same (t : T α) (k : Nat) (x : α) : (t.set k x).get k = some x := by simp [get_set]
theorem get_set_ne (t : T α) {k j : Nat} (x : α) (h : j ≠ k) : (t.set k x).get j = t.get j := by simp [get_set, h]

/-- A list's items at their places, from a place on. -/
def ofListAt : List α → Nat → T α → T α
  | [], _, t => t
  | x :: xs, k, t => ofListAt xs (k + 1) (t.set k x)
def ofList (l : List α) : T α := ofListAt l 0 .nil

theorem get_ofListAt (l : List α) (k : Nat) (t : T α) (j : Nat) :
    (ofListAt l k t).get j = if k ≤ j ∧ j < k + l.length then l[j - k]? else t.get j := by
  induction l generalizing k t with
  | nil =>
    have : ¬ (k ≤ j ∧ j < k + ([] : List α).length) := by simp
    rw [if_neg this]; rfl
  | cons x xs ih =>
    simp only [ofListAt]
    rw [ih]
    by_cases h : k + 1 ≤ j ∧ j < k + 1 + xs.length
    · rw [if_pos h, if_pos (by simp; omega)]
      have : j - k = (j - (k + 1)) + 1 := by omega
      rw [this]; simp
    · rw [if_neg h, get_set]
      by_cases e : j = k
      · subst e; simp
      · rw [if_neg e, if_neg (by simp; omega)]

theorem get_ofList (l : List α) (j : Nat) : (ofList l).get j = l[j]? := by
  rw [ofList, get_ofListAt]
  by_cases h : j < l.length
  · simp [h]
  · simp [h]

end T

/-! ### Abstract values -/

/-- What is known of a slice's capacity. -/
inductive Cap where
  | exact (c : Nat)
  | least (c : Nat)
  deriving Inhabited

def Cap.ok : Cap → Nat → Prop
  | .exact c, n => n = c
  | .least c, n => c ≤ n

/-- A value. An address is a block's number and a place in it; a slice says what is known of its capacity, and how many cells an element has. -/
inductive V where
  | bool (b : Bool)
  | int (k : IntKind) (n : Int)
  | flo (k : FloatKind) (bits : Nat)
  | cpl (k : FloatKind) (re im : Nat)
  | str (s : List UInt8)
  | nilptr
  | ptr (b o : Nat)
  | nilslice
  | slice (b o len : Nat) (cap : Cap) (sz : Nat)
  | nilmap
  | map (b : Nat)
  | func (fn : Fn) (first captured : List V)
  | nilfunc
  | iface (t : TypeId) (v : V)
  | niliface
  | agg (cells : List V)
  | tuple (vs : List V)
  deriving Inhabited

def V.undef : V := .tuple []
def V.cells : V → List V
  | .agg cs => cs
  | v => [v]
def V.oneCell : V → Bool
  | .agg _ | .tuple _ => false
  | _ => true

/-- Where an abstract block lies: the model's block, the cell of its place 0, and how many cells the model's block has. -/
structure Loc where
  blk : Nat
  off : Nat
  size : Nat

abbrev Mu := Nat → Option Loc

def Mu.le (μ μ' : Mu) : Prop := ∀ b p, μ b = some p → μ' b = some p
theorem Mu.le_refl (μ : Mu) : μ.le μ := fun _ _ h => h
theorem Mu.le_trans {a b c : Mu} (h : a.le b) (k : b.le c) : a.le c := fun x p hx => k x p (h x p hx)

def fnRel (μ : Mu) : Fn → Fn → Prop
  | .yield l, g => ∃ p, μ l = some p ∧ g = .yield p.blk
  | .func f, g => g = .func f
  | .method n, g => g = .method n
  | .methodOf t n, g => g = .methodOf t n
  | .via t p f b, g => g = .via t p f b

mutual
def R (μ : Mu) : V → Value → Prop
  | .bool b, v => v = .bool b
  | .int k n, v => v = .int k n
  | .flo k n, v => v = .float k n
  | .cpl k a b, v => v = .complex k a b
  | .str s, v => ∃ ba : ByteArray, v = .string ba ∧ ba.data.toList = s
  | .nilptr, v => v = .pointer none
  | .ptr b o, v => ∃ p, μ b = some p ∧ v = .pointer (some ⟨p.blk, p.off + o, none⟩)
  | .nilslice, v => v = .slice none 0 0
  | .slice b o len cap sz, v => ∃ ca cc, v = .slice (some ca) len cc ∧ len ≤ cc ∧ cap.ok cc ∧
      (cc ≠ 0 → ∃ p, μ b = some p ∧ ca = ⟨p.blk, p.off + o, none⟩ ∧ p.off + o + cc * sz ≤ p.size) ∧ ∃ p, μ b = some p
  | .nilmap, v => v = .map none
  | .map b, v => ∃ p, μ b = some p ∧ v = .map (some p.blk)
  | .func fn first captured, v => ∃ g a c, fnRel μ fn g ∧ RL μ first a ∧ RL μ captured c ∧ v = .func g a.toArray c.toArray
  | .nilfunc, v => v = .nilFunc
  | .iface t x, v => ∃ y, R μ x y ∧ v = .iface t y
  | .niliface, v => v = .nilIface
  | .agg cells, v => ∃ cs, RL μ cells cs ∧ v = .agg cs.toArray
  | .tuple vs, v => ∃ cs, RL μ vs cs ∧ v = .tuple cs.toArray
def RL (μ : Mu) : List V → List Value → Prop
  | [], l => l = []
  | x :: xs, l => ∃ y ys, R μ x y ∧ RL μ xs ys ∧ l = y :: ys
end

theorem fnRel_mono {μ μ' : Mu} (h : μ.le μ') : ∀ {f g : Fn}, fnRel μ f g → fnRel μ' f g
  | .yield _, _, ⟨p, hp, e⟩ => ⟨p, h _ _ hp, e⟩
  | .func _, _, e => e
  | .method _, _, e => e
  | .methodOf _ _, _, e => e
  | .via _ _ _ _, _, e => e

mutual
theorem R_mono {μ μ' : Mu} (h : μ.le μ') : ∀ (x : V) {v : Value}, R μ x v → R μ' x v
  | .bool _, _, e | .int _ _, _, e | .flo _ _, _, e | .cpl _ _ _, _, e | .str _, _, e | .nilptr, _, e | .nilslice, _, e | .nilmap, _, e | .nilfunc, _, e | .niliface, _, e => e
  | .ptr _ _, _, ⟨p, hp, e⟩ => ⟨p, h _ _ hp, e⟩
  | .slice _ _ _ _ _, _, ⟨ca, cc, e, hl, hc, ha, q, hq⟩ => ⟨ca, cc, e, hl, hc, fun hn => let ⟨p, hp, x, y⟩ := ha hn; ⟨p, h _ _ hp, x, y⟩, q, h _ _ hq⟩
  | .map _, _, ⟨p, hp, e⟩ => ⟨p, h _ _ hp, e⟩
  | .func _ first captured, _, ⟨g, a, c, hg, ha, hc, e⟩ => ⟨g, a, c, fnRel_mono h hg, RL_mono h first ha, RL_mono h captured hc, e⟩
  | .iface _ x, _, ⟨y, hy, e⟩ => ⟨y, R_mono h x hy, e⟩
  | .agg cells, _, ⟨cs, hcs, e⟩ => ⟨cs, RL_mono h cells hcs, e⟩
  | .tuple vs, _, ⟨cs, hcs, e⟩ => ⟨cs, RL_mono h vs hcs, e⟩
theorem RL_mono {μ μ' : Mu} (h : μ.le μ') : ∀ (xs : List V) {l : List Value}, RL μ xs l → RL μ' xs l
  | [], _, e => e
  | x :: xs, _, ⟨y, ys, hy, hys, e⟩ => ⟨y, ys, R_mono h x hy, RL_mono h xs hys, e⟩
end

theorem RL_length {μ : Mu} : ∀ {xs : List V} {l : List Value}, RL μ xs l → l.length = xs.length
  | [], _, e => by simp only [RL] at e; simp [e]
  | x :: xs, _, ⟨y, ys, _, hys, e⟩ => by subst e; simp [RL_length hys]

theorem RL_get {μ : Mu} : ∀ {xs : List V} {l : List Value}, RL μ xs l → ∀ (i : Nat) (x : V), xs[i]? = some x → ∃ y, l[i]? = some y ∧ R μ x y
  | [], _, _, i, x, h => by simp at h
  | a :: xs, _, ⟨y, ys, hy, hys, e⟩, i, x, h => by
    subst e
    cases i with
    | zero => simp at h; subst h; exact ⟨y, by simp, hy⟩
    | succ i => simpa using RL_get hys i x (by simpa using h)

theorem RL_of_get {μ : Mu} : ∀ {xs : List V} {l : List Value}, l.length = xs.length → (∀ (i : Nat) (x : V), xs[i]? = some x → ∃ y, l[i]? = some y ∧ R μ x y) → RL μ xs l
  | [], l, hl, _ => by
    simp at hl; simp [RL, hl]
  | a :: xs, l, hl, h => by
    cases l with
    | nil => simp at hl
    | cons y ys =>
      obtain ⟨y', hy', hr⟩ := h 0 a (by simp)
      simp at hy'; subst hy'
      exact ⟨y, ys, hr, RL_of_get (by simpa using hl) (fun i x hx => by simpa using h (i + 1) x (by simpa using hx)), rfl⟩

theorem RL_append {μ : Mu} : ∀ {xs ys : List V} {l m : List Value}, RL μ xs l → RL μ ys m → RL μ (xs ++ ys) (l ++ m)
  | [], _, _, _, e, h => by simp only [RL] at e; subst e; simpa using h
  | x :: xs, _, _, _, ⟨y, zs, hy, hzs, e⟩, h => by
    subst e
    exact ⟨y, zs ++ _, hy, RL_append hzs h, rfl⟩

theorem RL_drop {μ : Mu} : ∀ (n : Nat) {xs : List V} {l : List Value}, RL μ xs l → RL μ (xs.drop n) (l.drop n)
  | 0, _, _, h => by simpa using h
  | _ + 1, [], _, e => by simp only [RL] at e; subst e; simp [RL]
  | n + 1, x :: xs, _, ⟨y, ys, _, hys, e⟩ => by subst e; simpa using RL_drop n hys

theorem RL_take {μ : Mu} : ∀ (n : Nat) {xs : List V} {l : List Value}, RL μ xs l → RL μ (xs.take n) (l.take n)
  | 0, _, _, _ => by simp [RL]
  | _ + 1, [], _, e => by simp only [RL] at e; subst e; simp [RL]
  | n + 1, x :: xs, _, ⟨y, ys, hy, hys, e⟩ => by subst e; exact ⟨y, _, hy, RL_take n hys, rfl⟩

theorem R_cells {μ : Mu} {x : V} {v : Value} (h : R μ x v) : RL μ x.cells v.cells.toList := by
  cases x with
  | agg cells => obtain ⟨cs, hcs, e⟩ := h; subst e; simpa [V.cells, Value.cells] using hcs
  | str s => obtain ⟨ba, e, hs⟩ := h; subst e; exact ⟨_, _, ⟨ba, rfl, hs⟩, rfl, by simp [Value.cells]⟩
  | ptr b o => obtain ⟨p, hp, e⟩ := h; subst e; exact ⟨_, _, ⟨p, hp, rfl⟩, rfl, by simp [Value.cells]⟩
  | slice b o len cap sz => obtain ⟨ca, cc, e, hr⟩ := h; subst e; exact ⟨_, _, ⟨ca, cc, rfl, hr⟩, rfl, by simp [Value.cells]⟩
  | map b => obtain ⟨p, hp, e⟩ := h; subst e; exact ⟨_, _, ⟨p, hp, rfl⟩, rfl, by simp [Value.cells]⟩
  | func fn first captured => obtain ⟨g, a, c, hg, ha, hc, e⟩ := h; subst e; exact ⟨_, _, ⟨g, a, c, hg, ha, hc, rfl⟩, rfl, by simp [Value.cells]⟩
  | iface t x => obtain ⟨y, hy, e⟩ := h; subst e; exact ⟨_, _, ⟨y, hy, rfl⟩, rfl, by simp [Value.cells]⟩
  | tuple vs => obtain ⟨cs, hcs, e⟩ := h; subst e; exact ⟨_, _, ⟨cs, hcs, rfl⟩, rfl, by simp [Value.cells]⟩
  | bool _ | int _ _ | flo _ _ | cpl _ _ _ | nilptr | nilslice | nilmap | nilfunc | niliface =>
    simp only [R] at h; subst h; exact ⟨_, _, rfl, rfl, by simp [Value.cells]⟩

theorem R_oneCell {μ : Mu} {x : V} {v : Value} (h : R μ x v) : v.oneCell' = x.oneCell := by
  cases x with
  | agg cells => obtain ⟨cs, hcs, e⟩ := h; subst e; rfl
  | str s => obtain ⟨ba, e, hs⟩ := h; subst e; rfl
  | ptr b o => obtain ⟨p, hp, e⟩ := h; subst e; rfl
  | slice b o len cap sz => obtain ⟨ca, cc, e, hr⟩ := h; subst e; rfl
  | map b => obtain ⟨p, hp, e⟩ := h; subst e; rfl
  | func fn first captured => obtain ⟨g, a, c, hg, ha, hc, e⟩ := h; subst e; rfl
  | iface t x => obtain ⟨y, hy, e⟩ := h; subst e; rfl
  | tuple vs => obtain ⟨cs, hcs, e⟩ := h; subst e; rfl
  | bool _ | int _ _ | flo _ _ | cpl _ _ _ | nilptr | nilslice | nilmap | nilfunc | niliface => simp only [R] at h; subst h; rfl

/-! ### Constants -/

def optMap {α β : Type} (f : α → Option β) : List α → Option (List β)
  | [] => some []
  | x :: xs => match f x with
    | some y => match optMap f xs with
      | some ys => some (y :: ys)
      | none => none
    | none => none

/-- A constant of the program's text, or a type's zero value: no memory in it. -/
def ofValue : Nat → Value → Option V
  | 0, _ => none
  | d + 1, v =>
    match v with
    | .bool b => some (.bool b)
    | .int k n => some (.int k n)
    | .float k b => some (.flo k b)
    | .complex k a b => some (.cpl k a b)
    | .string s => some (.str s.data.toList)
    | .pointer none => some .nilptr
    | .slice none 0 0 => some .nilslice
    | .map none => some .nilmap
    | .nilFunc => some .nilfunc
    | .nilIface => some .niliface
    | .agg cs => (optMap (ofValue d) cs.toList).map .agg
    | .tuple cs => (optMap (ofValue d) cs.toList).map .tuple
    | .func (.func f) a c =>
      match a.toList, c.toList with
      | [], [] => some (.func (.func f) [] [])
      | _, _ => none
    | _ => none

theorem RL_optMap {μ : Mu} {f : Value → Option V} (h : ∀ v x, f v = some x → R μ x v) : ∀ (l : List Value) (xs : List V), optMap f l = some xs → RL μ xs l
  | [], xs, e => by simp [optMap] at e; subst e; rfl
  | v :: l, xs, e => by
    simp only [optMap] at e
    split at e
    · rename_i y hy
      split at e
      · rename_i ys hys
        simp at e; subst e
        exact ⟨v, l, h _ _ hy, RL_optMap h l ys hys, rfl⟩
      · simp at e
    · simp at e

theorem R_ofValue (μ : Mu) : ∀ (d : Nat) (v : Value) (x : V), ofValue d v = some x → R μ x v := by
  intro d
  induction d with
  | zero => intro v x h; simp [ofValue] at h
  | succ d ih =>
    intro v x h
    simp only [ofValue] at h
    split at h <;> first
      | (simp at h; subst h; simp only [R]; done)
      | skip
    · simp at h; subst h; exact ⟨_, rfl, rfl⟩
    · rename_i cs
      simp only [Option.map_eq_some_iff] at h
      obtain ⟨xs, hx, e⟩ := h; subst e
      exact ⟨cs.toList, RL_optMap (fun v x hv => ih v x hv) _ _ hx, by simp⟩
    · rename_i cs
      simp only [Option.map_eq_some_iff] at h
      obtain ⟨xs, hx, e⟩ := h; subst e
      exact ⟨cs.toList, RL_optMap (fun v x hv => ih v x hv) _ _ hx, by simp⟩
    · rename_i f a c
      split at h
      · rename_i ha hc
        simp at h; subst h
        refine ⟨.func f, [], [], rfl, rfl, rfl, ?_⟩
        have ea : a = #[] := by simpa using ha
        have ec : c = #[] := by simpa using hc
        subst ea; subst ec; rfl
      · simp at h
    · simp at h

end
end Go.AI

/- The abstract interpreter, part 2: abstract states, their relation to worlds, and the elementary steps on both sides. -/
namespace Go.AI
noncomputable section
open Go

structure ALoop where
  state : LoopState
  pending : Option Code
  fn : FuncId
  ntmps : Nat
  tmps : T V
  params : Array Tmp
  assign : Code
  body : Code
  defers : Nat

/-- A map's entry: key, value, when it came. -/
structure AEntry where
  key : V
  val : V
  born : Nat

inductive AObj where
  /-- variables in a row; ro: nobody may write them (they came in) -/
  | cells (ro : Bool) (c : List V)
  | map (es : List AEntry) (clock : Nat)
  | loop (l : ALoop)
  | deferred (taken : Bool)
  | iter (s : List UInt8) (pos : Nat)
  /-- a variable alone in its block -/
  | boxed (v : V)

structure St where
  heap : T AObj
  next : Nat

def St.get (σ : St) (b : Nat) : Option AObj := σ.heap.get b
def St.put (σ : St) (b : Nat) (o : Option AObj) : St := { σ with heap := σ.heap.put b o }
def St.alloc (σ : St) (o : AObj) : St := { heap := σ.heap.set σ.next o, next := σ.next + 1 }

theorem St.get_put (σ : St) (b : Nat) (o : Option AObj) (c : Nat) : (σ.put b o).get c = if c = b then o else σ.get c := by
  simp [St.get, St.put, T.get_put]
theorem St.get_alloc (σ : St) (o : AObj) (c : Nat) : (σ.alloc o).get c = if c = σ.next then some o else σ.get c := by
  simp [St.get, St.alloc, T.get_set]
@[simp] theorem St.next_put (σ : St) (b : Nat) (o : Option AObj) : (σ.put b o).next = σ.next := rfl
@[simp] theorem St.next_alloc (σ : St) (o : AObj) : (σ.alloc o).next = σ.next + 1 := rfl

/-- The temporaries of an activation. -/
def RT (μ : Mu) (n : Nat) (t : T V) (c : Array Value) : Prop :=
  c.size = n ∧ ∀ i v, t.get i = some v → ∃ cv, c[i]? = some cv ∧ R μ v cv

theorem RT_mono {μ μ' : Mu} (h : μ.le μ') {n : Nat} {t : T V} {c : Array Value} (k : RT μ n t c) : RT μ' n t c :=
  ⟨k.1, fun i v hv => let ⟨cv, hc, hr⟩ := k.2 i v hv; ⟨cv, hc, R_mono h v hr⟩⟩

inductive REs (μ : Mu) : List AEntry → List MapEntry → Prop
  | nil : REs μ [] []
  | cons {e : AEntry} {c : MapEntry} {es : List AEntry} {cs : List MapEntry} (hk : R μ e.key c.key) (hv : R μ e.val c.val) (hb : c.born = e.born) (h : REs μ es cs) :
      REs μ (e :: es) (c :: cs)

theorem REs_mono {μ μ' : Mu} (h : μ.le μ') {es : List AEntry} {cs : List MapEntry} (k : REs μ es cs) : REs μ' es cs := by
  induction k with
  | nil => exact .nil
  | cons hk hv hb _ ih => exact .cons (R_mono h _ hk) (R_mono h _ hv) hb ih

/-- The world at the start, and blocks of it that may be written. -/
structure W0 where
  w : World
  free : Nat → Prop

def W0.may (u : W0) (b : Nat) : Prop := u.w.heap.size ≤ b ∨ u.free b

/-- All but what may be written is as it was. -/
structure W0.Below (u : W0) (w : World) : Prop where
  os : w.os = u.w.os
  tape : w.tape = u.w.tape
  output : w.output = u.w.output
  size : u.w.heap.size ≤ w.heap.size
  block : ∀ b, b < u.w.heap.size → ¬ u.free b → w.heap[b]? = u.w.heap[b]?

theorem W0.Below.new {u : W0} {w : World} (h : u.Below w) : u.may w.heap.size := .inl h.size

/-- Nothing that was there may be written. -/
def W0.of (w : World) : W0 := ⟨w, fun _ => False⟩
theorem W0.Below.plain {w w' : World} (h : (W0.of w).Below w') : RowKit.Below w.heap.size w w' := ⟨h.os, h.tape, h.output, h.size, fun b hb => h.block b hb (fun h => h)⟩
theorem W0.of_below (w : World) : (W0.of w).Below w := ⟨rfl, rfl, rfl, Nat.le_refl _, fun _ _ _ => rfl⟩

def RObj (w0 : W0) (μ : Mu) (p : Loc) : AObj → Obj → Prop
  | .cells ro cs, o => ∃ c e fr, o = .cells c e fr ∧ c.size = p.size ∧ (∀ i v, cs[i]? = some v → ∃ cv, c[p.off + i]? = some cv ∧ R μ v cv) ∧
      (ro = false → w0.may p.blk ∧ fr.1 = fr.2)
  | .map es clock, o => ∃ ces, o = .map ces clock ∧ REs μ es ces.toList ∧ w0.may p.blk
  | .loop l, o => ∃ L : Loop, o = .loop L ∧ L.state = l.state ∧ L.pending = l.pending ∧ RT μ l.ntmps l.tmps L.tmps ∧ L.params = l.params ∧
      L.assign = l.assign ∧ L.body = l.body ∧ (∃ q, μ l.defers = some q ∧ L.defers = q.blk) ∧ w0.may p.blk
  | .deferred taken, o => o = .deferred (if taken then none else some []) ∧ w0.may p.blk
  | .iter s pos, o => (∃ ba : ByteArray, o = .stringIter ba pos ∧ ba.data.toList = s) ∧ p.off = 0 ∧ w0.may p.blk
  | .boxed x, o => (∃ cv e fr, o = .cells #[cv] e fr ∧ R μ x cv) ∧ p.off = 0 ∧ w0.may p.blk

theorem RObj_mono {w0 : W0} {μ μ' : Mu} (h : μ.le μ') {p : Loc} : ∀ {a : AObj} {o : Obj}, RObj w0 μ p a o → RObj w0 μ' p a o
  | .cells _ _, _, ⟨c, e, fr, ho, hs, hc, hr⟩ => ⟨c, e, fr, ho, hs, fun i v hv => let ⟨cv, h1, h2⟩ := hc i v hv; ⟨cv, h1, R_mono h v h2⟩, hr⟩
  | .map _ _, _, ⟨ces, ho, he, hf⟩ => ⟨ces, ho, REs_mono h he, hf⟩
  | .loop _, _, ⟨L, ho, h1, h2, h4, h5, h6, h7, ⟨q, hq, hd⟩, hf⟩ => ⟨L, ho, h1, h2, RT_mono h h4, h5, h6, h7, ⟨q, h _ _ hq, hd⟩, hf⟩
  | .deferred _, _, k => k
  | .iter _ _, _, k => k
  | .boxed x, _, ⟨⟨cv, e, fr, ho, hv⟩, k⟩ => ⟨⟨cv, e, fr, ho, R_mono h x hv⟩, k⟩

def AObj.ro : AObj → Bool
  | .cells true _ => true
  | _ => false

structure SR (w0 : W0) (μ : Mu) (σ : St) (w : World) : Prop where
  below : w0.Below w
  lt : ∀ b p, μ b = some p → b < σ.next ∧ p.blk < w.heap.size
  out : ∀ b, σ.next ≤ b → σ.get b = none
  obj : ∀ b p a, μ b = some p → σ.get b = some a → ∃ o, w.heap[p.blk]? = some o ∧ RObj w0 μ p a o
  inj : ∀ b c p q a d, μ b = some p → μ c = some q → σ.get b = some a → σ.get c = some d → a.ro = false → b ≠ c → p.blk ≠ q.blk

/-- What a step may do to the map of blocks, and to blocks that lie nowhere yet. -/
structure Ext (μ : Mu) (σ : St) (μ' : Mu) (σ' : St) : Prop where
  le : μ.le μ'
  next : σ.next ≤ σ'.next
  unm : ∀ b, b < σ.next → μ b = none → μ' b = none ∧ σ'.get b = σ.get b

theorem Ext.refl (μ : Mu) (σ : St) : Ext μ σ μ σ := ⟨Mu.le_refl μ, Nat.le_refl _, fun _ _ h => ⟨h, rfl⟩⟩
theorem Ext.trans {μ μ₁ μ₂ : Mu} {σ σ₁ σ₂ : St} (h : Ext μ σ μ₁ σ₁) (k : Ext μ₁ σ₁ μ₂ σ₂) : Ext μ σ μ₂ σ₂ :=
  ⟨Mu.le_trans h.le k.le, Nat.le_trans h.next k.next, fun b hb hn =>
    let ⟨h1, h2⟩ := h.unm b hb hn
    let ⟨k1, k2⟩ := k.unm b (Nat.lt_of_lt_of_le hb h.next) h1
    ⟨k1, k2.trans h2⟩⟩

section steps
variable {w0 : W0} {μ : Mu} {σ : St} {w : World}

theorem SR.drew (h : SR w0 μ σ w) (n : Nat) : SR w0 μ σ { w with drawn := n } :=
  { below := ⟨h.below.os, h.below.tape, h.below.output, h.below.size, h.below.block⟩, lt := h.lt, out := h.out, obj := h.obj, inj := h.inj }

/-- An abstract block is given up. -/
theorem SR.kill (h : SR w0 μ σ w) (b : Nat) : SR w0 μ (σ.put b none) w where
  below := h.below
  lt := h.lt
  out := fun c hc => by rw [St.get_put]; split <;> first | rfl | exact h.out c hc
  obj := fun c p a hp ha => by
    rw [St.get_put] at ha; split at ha
    · simp at ha
    · exact h.obj c p a hp ha
  inj := fun c d p q a e hp hq ha he => by
    rw [St.get_put] at ha he
    split at ha
    · simp at ha
    · split at he
      · simp at he
      · exact h.inj c d p q a e hp hq ha he

theorem Ext.kill (μ : Mu) (σ : St) (b : Nat) (hb : (μ b).isSome) : Ext μ σ μ (σ.put b none) :=
  ⟨Mu.le_refl μ, Nat.le_refl _, fun c _ hn => ⟨hn, by rw [St.get_put]; split <;> first | rfl | (subst_vars; simp [hn] at hb)⟩⟩

theorem SR.cell (h : SR w0 μ σ w) {b o : Nat} {p : Loc} {ro : Bool} {cs : List V} {v : V} (hp : μ b = some p) (hg : σ.get b = some (.cells ro cs)) (hv : cs[o]? = some v) :
    ∃ cv, w.cell? ⟨p.blk, p.off + o, none⟩ = some cv ∧ R μ v cv := by
  obtain ⟨O, hO, c, e, fr, ho, hs, hc, hr⟩ := h.obj b p _ hp hg
  obtain ⟨cv, h1, h2⟩ := hc o v hv
  refine ⟨cv, ?_, h2⟩
  subst ho
  simp [World.cell?, hO, h1]

/-- What the model's world becomes when one cell is written. -/
theorem heap_setCell (w : World) {β o : Nat} {v : Value} {c : Array Value} {e : TypeId} {fr : Nat × Nat} (h : w.heap[β]? = some (.cells c e fr)) :
    (w.setCell ⟨β, o, none⟩ v).heap[β]? = some (.cells (c.setIfInBounds o v) e fr) ∧ ∀ k, k ≠ β → (w.setCell ⟨β, o, none⟩ v).heap[k]? = w.heap[k]? := by
  constructor
  · simp [World.setCell, Array.getElem?_modify, h]
  · intro k hk
    simp only [World.setCell, Array.getElem?_modify]
    rw [if_neg (fun e => hk e.symm)]

@[simp] theorem size_setCell (w : World) (a : Addr) (v : Value) : (w.setCell a v).heap.size = w.heap.size := by simp [World.setCell]

/-- The general step: one block of the model's heap is changed, that of an abstract block that may be written. -/
theorem SR.change (h : SR w0 μ σ w) {b : Nat} {p : Loc} {a a' : AObj} {O' : Obj} {w' : World} (hp : μ b = some p) (hg : σ.get b = some a) (hro : a.ro = false)
    (hfresh : w0.may p.blk) (hsize : w'.heap.size = w.heap.size) (hsame : ∀ k, k ≠ p.blk → w'.heap[k]? = w.heap[k]?) (hos : w'.os = w.os) (htape : w'.tape = w.tape) (hout : w'.output = w.output)
    (hO : w'.heap[p.blk]? = some O') (hR : RObj w0 μ p a' O') : SR w0 μ (σ.put b (some a')) w' where
  below := ⟨hos.trans h.below.os, htape.trans h.below.tape, hout.trans h.below.output, by rw [hsize]; exact h.below.size, fun k hk hf => by
    rw [hsame k (fun e => by subst e; exact hfresh.elim (fun h1 => absurd hk (Nat.not_lt.2 h1)) hf)]
    exact h.below.block k hk hf⟩
  lt := fun c q hq => by rw [hsize]; exact h.lt c q hq
  out := fun c hc => by
    rw [St.get_put]; split
    · subst_vars
      have := (h.lt _ p hp).1
      simp at hc; omega
    · exact h.out c hc
  obj := fun c q d hq hd => by
    rw [St.get_put] at hd; split at hd
    · subst_vars
      simp at hd; subst hd
      rw [hp] at hq; simp at hq; subst hq
      exact ⟨O', hO, hR⟩
    · rename_i hne
      obtain ⟨o, ho, hr⟩ := h.obj c q d hq hd
      have : p.blk ≠ q.blk := h.inj b c p q a d hp hq hg hd hro (fun e => hne e.symm)
      exact ⟨o, by rw [hsame _ (fun e => this e.symm)]; exact ho, hr⟩
  inj := fun c d q r x y hq hr hx hy hxro hne => by
    rw [St.get_put] at hx hy
    split at hx
    · subst_vars
      split at hy
      · subst_vars; exact absurd rfl hne
      · exact h.inj _ d q r a y hq hr hg hy hro hne
    · split at hy
      · subst_vars
        exact fun e => (h.inj _ c r q a x hr hq hg hx hro (fun e => hne e.symm)) e.symm
      · exact h.inj c d q r x y hq hr hx hy hxro hne

theorem Ext.put (μ : Mu) (σ : St) {b : Nat} (o : Option AObj) {p : Loc} (hb : μ b = some p) : Ext μ σ μ (σ.put b o) :=
  ⟨Mu.le_refl μ, Nat.le_refl _, fun c _ hn => ⟨hn, by rw [St.get_put]; split <;> first | rfl | (subst_vars; rw [hb] at hn; simp at hn)⟩⟩

/-- A cell is written, on both sides. -/
theorem SR.store (h : SR w0 μ σ w) {b o : Nat} {p : Loc} {cs : List V} {v : V} {cv : Value} (hp : μ b = some p) (hg : σ.get b = some (.cells false cs)) (ho : o < cs.length) (hv : R μ v cv) :
    SR w0 μ (σ.put b (some (.cells false (cs.set o v)))) (w.setCell ⟨p.blk, p.off + o, none⟩ cv) ∧
      w.frozen? ⟨p.blk, p.off + o, none⟩ = false := by
  obtain ⟨O, hO, c, e, fr, hc', hs, hc, hr⟩ := h.obj b p _ hp hg
  subst hc'
  obtain ⟨cw, h1, _⟩ := hc o cs[o] (by simp [ho])
  have hlt : p.off + o < c.size := by
    rcases Nat.lt_or_ge (p.off + o) c.size with hh | hh
    · exact hh
    · rw [Array.getElem?_eq_none hh] at h1; simp at h1
  obtain ⟨hfresh, hfr⟩ := hr rfl
  obtain ⟨hs1, hs2⟩ := heap_setCell w (o := p.off + o) (v := cv) hO
  refine ⟨h.change (a := .cells false cs) hp hg rfl hfresh (by simp) hs2 rfl rfl rfl hs1 ⟨_, _, _, rfl, by simpa using hs, fun i x hx => ?_, fun _ => ⟨hfresh, hfr⟩⟩, ?_⟩
  · rw [List.getElem?_set] at hx
    split at hx
    · subst_vars
      simp at hx
      obtain ⟨_, rfl⟩ := hx
      exact ⟨cv, by simp [hlt], hv⟩
    · rename_i hne
      obtain ⟨cx, h3, h4⟩ := hc i x hx
      exact ⟨cx, by rw [Array.getElem?_setIfInBounds_ne (by omega)]; exact h3, h4⟩
  · simp only [World.frozen?, hO]
    simp; omega

/-- Mu with one block more. -/
def Mu.add (μ : Mu) (b : Nat) (p : Loc) : Mu := fun c => if c = b then some p else μ c
theorem Mu.le_add (μ : Mu) {b : Nat} (p : Loc) (h : μ b = none) : μ.le (μ.add b p) := fun c q hq => by
  unfold Mu.add; split
  · subst_vars; rw [h] at hq; simp at hq
  · exact hq
@[simp] theorem Mu.add_same (μ : Mu) (b : Nat) (p : Loc) : μ.add b p b = some p := by simp [Mu.add]

theorem SR.next_none (h : SR w0 μ σ w) : μ σ.next = none := by
  cases hm : μ σ.next with
  | none => rfl
  | some p => exact absurd (h.lt _ p hm).1 (Nat.lt_irrefl _)

/-- A block is made, on both sides. -/
theorem SR.alloc (h : SR w0 μ σ w) {a : AObj} {O : Obj} {p : Loc} (hp : p.blk = w.heap.size) (hR : RObj w0 (μ.add σ.next p) p a O) :
    SR w0 (μ.add σ.next p) (σ.alloc a) { w with heap := w.heap.push O } ∧ Ext μ σ (μ.add σ.next p) (σ.alloc a) := by
  have hn := h.next_none
  have hle := μ.le_add p hn
  refine ⟨{ below := ?_, lt := ?_, out := ?_, obj := ?_, inj := ?_ }, hle, by simp, fun b hb hm => ⟨?_, ?_⟩⟩
  · have := h.below.size
    refine ⟨h.below.os, h.below.tape, h.below.output, by simp; omega, fun k hk hf => ?_⟩
    simp only []
    rw [← h.below.block k hk hf, Array.getElem?_push_lt (by omega)]
    exact (Array.getElem?_eq_getElem (by omega)).symm
  · intro b q hq
    unfold Mu.add at hq; split at hq
    · subst_vars; simp at hq; subst hq; simp [hp]
    · have := h.lt b q hq; simp; omega
  · intro c hc
    simp at hc
    rw [St.get_alloc, if_neg (by omega)]
    exact h.out c (by omega)
  · intro b q d hq hd
    rw [St.get_alloc] at hd
    unfold Mu.add at hq
    split at hd
    · subst_vars
      simp at hd hq; subst hd; subst hq
      exact ⟨O, by simp [hp], hR⟩
    · rename_i hne
      rw [if_neg hne] at hq
      obtain ⟨o, ho, hr⟩ := h.obj b q d hq hd
      refine ⟨o, ?_, RObj_mono hle hr⟩
      have hlt := (h.lt b q hq).2
      simp only []
      rw [Array.getElem?_push_lt hlt]
      rw [Array.getElem?_eq_getElem hlt] at ho; exact ho
  · intro b c q r x y hq hr hx hy hro hne
    rw [St.get_alloc] at hx hy
    unfold Mu.add at hq hr
    split at hx
    · subst_vars
      simp at hq; subst hq
      rw [if_neg (fun e => hne e.symm)] at hr
      have := (h.lt c r hr).2
      omega
    · rename_i hb
      rw [if_neg hb] at hq
      have h1 := (h.lt b q hq).2
      split at hy
      · subst_vars
        simp at hr; subst hr
        omega
      · rename_i hc
        rw [if_neg hc] at hr
        exact h.inj b c q r x y hq hr hx hy hro hne
  · unfold Mu.add; rw [if_neg (by omega)]; exact hm
  · rw [St.get_alloc, if_neg (by omega)]

end steps
end
end Go.AI

/- The abstract interpreter, part 3: the operations on abstract states, as functions. -/
namespace Go.AI
noncomputable section

/-- The program's tables, laid out for the kernel. -/
structure PT where
  types : T TypeInfo
  funcs : T Func
  /-- struct types whose values may be compared -/
  eqs : T Unit

structure PT.Ok (pt : PT) (P : Program) : Prop where
  types : ∀ t i, pt.types.get t = some i → P.info? t = some i
  funcs : ∀ f fn, pt.funcs.get f = some fn → P.funcs[f]? = some fn ∧ (fn.name == "runtime.NumGoroutine") = false
  eqs : ∀ t, pt.eqs.get t = some () → P.stoodInHeld t = false
  orders : P.follows .mixedOrders = true

def PT.und (pt : PT) (t : TypeId) : Option TypeDesc :=
  match pt.types.get t with
  | some i => match i.desc with
    | .named _ u => match pt.types.get u with
      | some j => some j.desc
      | none => none
    | d => some d
  | none => none

def PT.size (pt : PT) (t : TypeId) : Option Nat :=
  match pt.types.get t with
  | some i => some i.size
  | none => none

def descAgg : TypeDesc → Bool
  | .struct _ | .array _ _ => true
  | _ => false

def PT.isAgg (pt : PT) (t : TypeId) : Option Bool :=
  match pt.und t with
  | some d => some (descAgg d)
  | none => none

def PT.zero (pt : PT) (t : TypeId) : Option V :=
  match pt.types.get t with
  | some i => match i.zero with
    | some v => ofValue 6 v
    | none => none
  | none => none

/-! ### Forcing (for the kernel): identities -/

def nf {α : Type} (m : Nat) (k : Nat → α) : α :=
  match m with
  | 0 => k 0
  | n + 1 => k (n + 1)
@[simp] theorem nf_eq {α : Type} (m : Nat) (k : Nat → α) : nf m k = k m := by cases m <;> rfl

def zf {α : Type} (m : Int) (k : Int → α) : α :=
  match m with
  | .ofNat n => nf n fun n => k (.ofNat n)
  | .negSucc n => nf n fun n => k (.negSucc n)
@[simp] theorem zf_eq {α : Type} (m : Int) (k : Int → α) : zf m k = k m := by cases m <;> simp [zf]

/-! ### Lists of cells -/

def takeN {α : Type} : Nat → List α → Option (List α)
  | 0, _ => some []
  | _ + 1, [] => none
  | n + 1, x :: xs => match takeN n xs with
    | some ys => some (x :: ys)
    | none => none

theorem takeN_spec {α : Type} : ∀ (n : Nat) (l r : List α), takeN n l = some r → r = l.take n ∧ n ≤ l.length
  | 0, _, _, h => by simp [takeN] at h; simp [h.symm]
  | _ + 1, [], _, h => by simp [takeN] at h
  | n + 1, x :: xs, r, h => by
    simp only [takeN] at h
    split at h
    · rename_i ys hy
      simp at h; subst h
      obtain ⟨h1, h2⟩ := takeN_spec n xs ys hy
      simp [h1, h2]
    · simp at h

theorem takeN_eq {α : Type} : ∀ (n : Nat) (l : List α), n ≤ l.length → takeN n l = some (l.take n)
  | 0, _, _ => by simp [takeN]
  | _ + 1, [], h => by simp at h
  | n + 1, x :: xs, h => by simp [takeN, takeN_eq n xs (by simpa using h)]

/-- 'set', strict up to the place. -/
def setS {α : Type} : List α → Nat → α → List α
  | [], _, _ => []
  | _ :: xs, 0, v => v :: xs
  | x :: xs, n + 1, v => match setS xs n v with
    | [] => [x]
    | y :: ys => x :: y :: ys

theorem setS_eq {α : Type} : ∀ (l : List α) (n : Nat) (v : α), setS l n v = l.set n v
  | [], _, _ => rfl
  | _ :: _, 0, _ => rfl
  | x :: xs, n + 1, v => by
    simp only [setS, setS_eq xs n v, List.set_cons_succ]
    cases xs.set n v <;> rfl

/-- vs over cs, from a place on. -/
def overlay {α : Type} (cs : List α) (o : Nat) (vs : List α) : List α := cs.take o ++ (vs ++ cs.drop (o + vs.length))

/-- 'overlay', strict up to its end. -/
def overS {α : Type} : List α → Nat → List α → Option (List α)
  | cs, 0, [] => some cs
  | [], 0, _ :: _ => none
  | _ :: cs, 0, v :: vs => match overS cs 0 vs with
    | some r => some (v :: r)
    | none => none
  | [], _ + 1, _ => none
  | c :: cs, o + 1, vs => match overS cs o vs with
    | some r => some (c :: r)
    | none => none

theorem overS_spec {α : Type} : ∀ (cs : List α) (o : Nat) (vs r : List α), overS cs o vs = some r → r = overlay cs o vs ∧ o + vs.length ≤ cs.length
  | cs, 0, [], r, h => by simp [overS] at h; simp [overlay, h]
  | [], 0, _ :: _, _, h => by simp [overS] at h
  | c :: cs, 0, v :: vs, r, h => by
    simp only [overS] at h
    split at h
    · rename_i r' hr
      simp at h; subst h
      obtain ⟨h1, h2⟩ := overS_spec cs 0 vs r' hr
      subst h1
      simp [overlay] at h2 ⊢
      exact h2
    · simp at h
  | [], _ + 1, _, _, h => by simp [overS] at h
  | c :: cs, o + 1, vs, r, h => by
    simp only [overS] at h
    split at h
    · rename_i r' hr
      simp at h; subst h
      obtain ⟨h1, h2⟩ := overS_spec cs o vs r' hr
      subst h1
      refine ⟨?_, by simp; omega⟩
      simp [overlay, Nat.add_right_comm]
    · simp at h

/-- The same, but what goes beyond the end makes the row longer. -/
def overG {α : Type} : List α → Nat → List α → Option (List α)
  | cs, 0, [] => some cs
  | [], 0, v :: vs => some (v :: vs)
  | _ :: cs, 0, v :: vs => match overG cs 0 vs with
    | some r => some (v :: r)
    | none => none
  | [], _ + 1, _ => none
  | c :: cs, o + 1, vs => match overG cs o vs with
    | some r => some (c :: r)
    | none => none

theorem overG_spec {α : Type} : ∀ (cs : List α) (o : Nat) (vs r : List α), overG cs o vs = some r → r = overlay cs o vs ∧ o ≤ cs.length
  | cs, 0, [], r, h => by simp [overG] at h; simp [overlay, h]
  | [], 0, v :: vs, r, h => by simp [overG] at h; simp [overlay, ← h]
  | c :: cs, 0, v :: vs, r, h => by
    simp only [overG] at h
    split at h
    · rename_i r' hr
      simp at h; subst h
      obtain ⟨h1, h2⟩ := overG_spec cs 0 vs r' hr
      subst h1
      simp [overlay]
    · simp at h
  | [], _ + 1, _, _, h => by simp [overG] at h
  | c :: cs, o + 1, vs, r, h => by
    simp only [overG] at h
    split at h
    · rename_i r' hr
      simp at h; subst h
      obtain ⟨h1, h2⟩ := overG_spec cs o vs r' hr
      subst h1
      refine ⟨?_, by simp; omega⟩
      simp [overlay, Nat.add_right_comm]
    · simp at h

theorem overlay_length {α : Type} {cs : List α} {o : Nat} {vs : List α} (h : o + vs.length ≤ cs.length) : (overlay cs o vs).length = cs.length := by
  simp [overlay]; omega

def allOne : List V → Bool
  | [] => true
  | v :: vs => v.oneCell && allOne vs

/-! ### Loads and stores -/

def loadA (pt : PT) (t : TypeId) (σ : St) (a : V) : Option V :=
  match a with
  | .ptr b o => match σ.get b with
    | some (.cells _ cs) => match pt.isAgg t with
      | some true => match pt.size t with
        | some n => match takeN n (cs.drop o) with
          | some l => some (.agg l)
          | none => none
        | none => none
      | some false => cs[o]?
      | none => none
    | _ => none
  | _ => none

/-- Cells are written at a place. -/
def putCells (σ : St) (b o : Nat) (vs : List V) : Option St :=
  match σ.get b with
  | some (.cells false cs) => match overS cs o vs with
    | some cs' => match allOne vs with
      | true => some (σ.put b (some (.cells false cs')))
      | false => none
    | none => none
  | _ => none

/-- Cells are written at a place; the row may become longer. -/
def putGrow (σ : St) (b o : Nat) (vs : List V) : Option St :=
  match σ.get b with
  | some (.cells false cs) => match overG cs o vs with
    | some cs' => match allOne vs with
      | true => some (σ.put b (some (.cells false cs')))
      | false => none
    | none => none
  | _ => none

def putCell (σ : St) (b o : Nat) (v : V) : Option St :=
  match σ.get b with
  | some (.cells false cs) => match cs[o]? with
    | some _ => match v.oneCell, setS cs o v with
      | true, c :: cs' => some (σ.put b (some (.cells false (c :: cs'))))
      | _, _ => none
    | none => none
  | _ => none

def storeA (pt : PT) (t : TypeId) (σ : St) (a v : V) : Option St :=
  match a with
  | .ptr b o => match pt.size t with
    | some n => match v with
      | .agg vs => match Nat.beq vs.length n with
        | true => putCells σ b o vs
        | false => none
      | v => match Nat.beq 1 n with
        | true => putCell σ b o v
        | false => none
    | none => none
  | _ => none

/-! ### Sums, comparisons, conversions -/

def wrapA (k : IntKind) (n : Int) : V := zf (k.wrap n) fun n => .int k n

def eqBytes : List UInt8 → List UInt8 → Bool
  | [], [] => true
  | a :: x, b :: y => match Nat.beq a.toNat b.toNat with
    | true => eqBytes x y
    | false => false
  | _, _ => false

def ltBytes : List UInt8 → List UInt8 → Bool
  | _, [] => false
  | [], _ :: _ => true
  | a :: x, b :: y => match Nat.beq a.toNat b.toNat with
    | true => ltBytes x y
    | false => Nat.blt a.toNat b.toNat

def strOp (op : BinOp) (x y : List UInt8) : Option V :=
  match op with
  | .add => match Nat.ble (x.length + y.length) 1000000000 with
    | true => some (.str (x ++ y))
    | false => none
  | .eql => some (.bool (eqBytes x y))
  | .neq => some (.bool (!eqBytes x y))
  | .lss => some (.bool (ltBytes x y))
  | .leq => some (.bool (!ltBytes y x))
  | .gtr => some (.bool (ltBytes y x))
  | .geq => some (.bool (!ltBytes x y))
  | _ => none

def zle : Int → Int → Bool
  | .ofNat a, .ofNat b => Nat.ble a b
  | .negSucc _, .ofNat _ => true
  | .ofNat _, .negSucc _ => false
  | .negSucc a, .negSucc b => Nat.ble b a
def zeq : Int → Int → Bool
  | .ofNat a, .ofNat b => Nat.beq a b
  | .negSucc a, .negSucc b => Nat.beq a b
  | _, _ => false

def bitsA (k : IntKind) (f : BitVec k.bits → BitVec k.bits → BitVec k.bits) (x y : Int) : V :=
  wrapA k ((f (BitVec.ofInt k.bits x) (BitVec.ofInt k.bits y)).toNat : Int)

def intOp (op : BinOp) (k : IntKind) (x y : Int) : Option V :=
  match op with
  | .add => some (wrapA k (x + y))
  | .sub => some (wrapA k (x - y))
  | .mul => some (wrapA k (x * y))
  | .quo => match zeq y 0 with
    | true => none
    | false => some (wrapA k (x.tdiv y))
  | .rem => match zeq y 0 with
    | true => none
    | false => some (zf (x.tmod y) fun n => .int k n)
  | .and => some (bitsA k (· &&& ·) x y)
  | .or => some (bitsA k (· ||| ·) x y)
  | .xor => some (bitsA k (· ^^^ ·) x y)
  | .andNot => some (bitsA k (fun a b => a &&& ~~~b) x y)
  | .eql => some (.bool (zeq x y))
  | .neq => some (.bool (!zeq x y))
  | .lss => some (.bool (!zle y x))
  | .leq => some (.bool (zle x y))
  | .gtr => some (.bool (!zle x y))
  | .geq => some (.bool (zle y x))
  | .shl | .shr => none

def shiftOp (op : BinOp) (k : IntKind) (x : Int) (y : Int) : Option V :=
  match y with
  | .negSucc _ => none
  | .ofNat n => match op with
    | .shl => some (wrapA k (x * 2 ^ (min n k.bits)))
    | .shr => some (zf (x.fdiv (2 ^ (min n k.bits))) fun n => .int k n)
    | _ => none

/-- '==' of values of one cell. -/
def eqA (pt : PT) (t : TypeId) (x y : V) : Option Bool :=
    match x, y with
    | .bool a, .bool b => match pt.und t with
      | some .bool => some (match a, b with | true, true => true | false, false => true | _, _ => false)
      | _ => none
    | .int k a, .int k' b => match pt.und t with
      | some (.int _) => if k = k' then some (zeq a b) else none
      | _ => none
    | .str a, .str b => match pt.und t with
      | some .string => some (eqBytes a b)
      | _ => none
    | .nilptr, .nilptr => match pt.und t with
      | some (.pointer _) => some true
      | _ => none
    | .nilptr, .ptr _ _ => match pt.und t with
      | some (.pointer _) => some false
      | _ => none
    | .ptr _ _, .nilptr => match pt.und t with
      | some (.pointer _) => some false
      | _ => none
    | .nilslice, .nilslice => match pt.und t with
      | some (.slice _) => some true
      | _ => none
    | .nilslice, .slice _ _ _ _ _ => match pt.und t with
      | some (.slice _) => some false
      | _ => none
    | .slice _ _ _ _ _, .nilslice => match pt.und t with
      | some (.slice _) => some false
      | _ => none
    | .nilmap, .nilmap => match pt.und t with
      | some (.map _ _) => some true
      | _ => none
    | .nilmap, .map _ => match pt.und t with
      | some (.map _ _) => some false
      | _ => none
    | .map _, .nilmap => match pt.und t with
      | some (.map _ _) => some false
      | _ => none
    | .nilfunc, .nilfunc => match pt.und t with
      | some (.func _ _ _) => some true
      | _ => none
    | .nilfunc, .func _ _ _ => match pt.und t with
      | some (.func _ _ _) => some false
      | _ => none
    | .func _ _ _, .nilfunc => match pt.und t with
      | some (.func _ _ _) => some false
      | _ => none
    | _, _ => none

/-- '==' of two structs whose fields are numbers, bools and strings, field by field. -/
def eqFields (pt : PT) : List Field → List V → List V → Option Bool
  | [], _, _ => some true
  | f :: fs, xs, ys =>
    match xs[f.offset]?, ys[f.offset]? with
    | some x, some y => match eqA pt f.type x y with
      | some true => eqFields pt fs xs ys
      | some false => some false
      | none => none
    | _, _ => none

def plainDesc : TypeDesc → Bool
  | .bool => true
  | .int _ => true
  | .string => true
  | _ => false

/-- Fields that are numbers, bools, strings, and have names. -/
def plainFields (pt : PT) : List Field → Bool
  | [] => true
  | f :: fs => match pt.und f.type with
    | some d => plainDesc d && !(f.name == "_") && plainFields pt fs
    | none => false

/-- Where a slice of bytes, or a string, has them. -/
def readSlice (σ : St) (sz n : Nat) (x : V) : Option (List V) :=
  match x with
  | .nilslice => match n with
    | 0 => some []
    | _ + 1 => none
  | .slice b o _ _ _ => match n with
    | 0 => some []
    | _ + 1 => match σ.get b with
      | some (.cells _ cs) => takeN (n * sz) (cs.drop o)
      | _ => none
  | .str s => match Nat.beq sz 1, takeN n s with
    | true, some l => some (l.map fun c => .int .u8 (Int.ofNat c.toNat))
    | _, _ => none
  | _ => none

def bytesOfCells : List V → Option (List UInt8)
  | [] => some []
  | .int .u8 n :: vs => match bytesOfCells vs with
    | some r => some (UInt8.ofNat n.toNat :: r)
    | none => none
  | _ => none

def lenA : V → Option Nat
  | .nilslice => some 0
  | .slice _ _ n _ _ => some n
  | .str s => some s.length
  | _ => none

end
end Go.AI

/- The abstract interpreter, part 4: slices, maps, calls' targets; one function for all operations. -/
namespace Go.AI
noncomputable section

def natOf : V → Option Nat
  | .int _ (.ofNat n) => some n
  | _ => none

def optNat : Option V → Nat → Option Nat
  | none, d => some d
  | some v, _ => natOf v

/-- The elements' type, and its cells, of a slice's type. -/
def PT.elem (pt : PT) (t : TypeId) : Option (TypeId × Nat) :=
  match pt.und t with
  | some (.slice e) => match pt.size e with
    | some n => some (e, n)
    | none => none
  | _ => none

def sliceStr (s : List UInt8) (lo hi : Option V) : Option V :=
  match optNat hi s.length with
  | some h => match optNat lo 0 with
    | some l => match Nat.ble l h && Nat.ble h s.length with
      | true => match takeN (h - l) (s.drop l) with
        | some r => some (.str r)
        | none => none
      | false => none
    | none => none
  | none => none

def capTop (cap : Cap) (len : Nat) : Nat :=
  match cap with
  | .exact c => c
  | .least c => match Nat.ble len c with
    | true => c
    | false => len
def capSub (cap : Cap) (l : Nat) : Cap :=
  match cap with
  | .exact c => .exact (c - l)
  | .least c => .least (c - l)

/-- An array's length and elements, of the array's type or of a pointer's to it. -/
def PT.arrayOf (pt : PT) (t : TypeId) : Option (Nat × TypeId) :=
  match pt.und t with
  | some (.array n e) => some (n, e)
  | some (.pointer a) => match pt.und a with
    | some (.array n e) => some (n, e)
    | _ => none
  | _ => none

def sliceA (pt : PT) (t : TypeId) (σ : St) (x : V) (lo hi mx : Option V) : Option V :=
  match x with
  | .str s => match pt.und t, mx with
    | some .string, none => sliceStr s lo hi
    | _, _ => none
  | .nilslice => match pt.elem t with
    | some _ => match optNat mx 0, optNat hi 0, optNat lo 0 with
      | some 0, some 0, some 0 => match mx, hi with
        | some _, none => none
        | _, _ => some .nilslice
      | _, _, _ => none
    | none => none
  | .slice b o len cap sz => match pt.elem t with
    | some (_, n) => match Nat.beq n sz with
      | true => match mx with
        | none => match optNat hi len, optNat lo 0 with
          | some h, some l => match Nat.ble l h && Nat.ble h (capTop cap len) with
            | true => some (.slice b (o + l * sz) (h - l) (capSub cap l) sz)
            | false => none
          | _, _ => none
        | some m => match hi with
          | none => none
          | some h => match natOf m, natOf h, optNat lo 0 with
            | some m, some h, some l => match Nat.ble l h && Nat.ble h m && Nat.ble m (capTop cap len) with
              | true => some (.slice b (o + l * sz) (h - l) (.exact (m - l)) sz)
              | false => none
            | _, _, _ => none
      | false => none
    | none => none
  | .ptr b o => match pt.arrayOf t with
    | some (n, e) => match pt.size e, σ.get b, mx with
      | some (s + 1), some (.cells _ cs), none => match takeN (n * (s + 1)) (cs.drop o) with
        | some _ => match optNat hi n, optNat lo 0 with
          | some h, some l => match Nat.ble l h && Nat.ble h n with
            | true => some (.slice b (o + l * (s + 1)) (h - l) (.exact (n - l)) (s + 1))
            | false => none
          | _, _ => none
        | none => none
      | _, _, _ => none
    | none => none
  | _ => none

def indexAddrA (pt : PT) (t : TypeId) (x ix : V) : Option V :=
  match natOf ix with
  | some i => match x with
    | .slice b o len _ sz => match pt.elem t with
      | some (_, n) => match Nat.beq n sz && Nat.blt i len with
        | true => some (.ptr b (o + i * sz))
        | false => none
      | none => none
    | .ptr b o => match pt.und t with
      | some (.array n e) => match pt.size e with
        | some sz => match Nat.blt i n with
          | true => some (.ptr b (o + i * sz))
          | false => none
        | none => none
      | _ => none
    | _ => none
  | none => none

/-- A part of an aggregate. -/
def partA (pt : PT) (t : TypeId) (cs : List V) (o : Nat) : Option V :=
  match pt.isAgg t with
  | some true => match pt.size t with
    | some n => match takeN n (cs.drop o) with
      | some l => some (.agg l)
      | none => none
    | none => none
  | some false => cs[o]?
  | none => none

def indexA (pt : PT) (t : TypeId) (x ix : V) : Option V :=
  match natOf ix with
  | some i => match x, pt.und t with
    | .agg cs, some (.array n e) => match pt.size e, Nat.blt i n with
      | some sz, true => partA pt e cs (i * sz)
      | _, _ => none
    | .str s, some .string => match s[i]? with
      | some c => some (.int .u8 (Int.ofNat c.toNat))
      | none => none
    | _, _ => none
  | none => none

def fieldAddrA (pt : PT) (s : TypeId) (x : V) (f : Nat) : Option V :=
  match x with
  | .ptr b o => match pt.und s with
    | some (.struct fs) => match fs[f]? with
      | some f => match pt.size f.type with
        | some (_ + 1) => some (.ptr b (o + f.offset))
        | _ => none
      | none => none
    | _ => none
  | _ => none

def fieldA (pt : PT) (t : TypeId) (x : V) (f : Nat) : Option V :=
  match x with
  | .agg cs => match pt.und t with
    | some (.struct fs) => match fs[f]? with
      | some f => partA pt f.type cs f.offset
      | none => none
    | _ => none
  | _ => none

def fillA (place : Nat → Option (Nat × Nat)) : List V → List (Nat × V) → Option (List V)
  | cells, [] => some cells
  | cells, (i, v) :: rest =>
    match place i with
    | some (off, size) => match Nat.beq v.cells.length size with
      | true => match overS cells off v.cells with
        | some cells' => fillA place cells' rest
        | none => none
      | false => none
    | none => none

def fieldPlace? (pt : PT) (fs : Array Field) (i : Nat) : Option (Nat × Nat) :=
  match fs[i]? with
  | some f => match pt.size f.type with
    | some n => some (f.offset, n)
    | none => none
  | none => none

def allSized (pt : PT) : List Field → Bool
  | [] => true
  | f :: fs => match pt.size f.type with
    | some _ => allSized pt fs
    | none => false

def buildA (pt : PT) (t : TypeId) (parts : List (Nat × V)) : Option V :=
  match pt.zero t with
  | some z => match pt.und t with
    | some (.struct fs) => match allSized pt fs.toList with
      | true => match fillA (fieldPlace? pt fs) z.cells parts with
        | some cs => some (.agg cs)
        | none => none
      | false => none
    | some (.array _ e) => match pt.size e with
      | some n => match fillA (fun i => some (i * n, n)) z.cells parts with
        | some cs => some (.agg cs)
        | none => none
      | none => none
    | _ => none
  | none => none

/-- n times some cells. -/
def times (zs : List V) : Nat → List V
  | 0 => []
  | n + 1 => zs ++ times zs n

def zerosA (pt : PT) (e : TypeId) (n : Nat) : Option (List V) :=
  match pt.zero e with
  | some z => match pt.size e with
    | some s => match Nat.beq z.cells.length s with
      | true => some (times z.cells n)
      | false => none
    | none => none
  | none => none

def buildSliceA (pt : PT) (t : TypeId) (len : Nat) (parts : List (Nat × V)) (σ : St) : Option (V × St) :=
  match pt.elem t with
  | some (e, n) => match Nat.ble (len * n) 100000, zerosA pt e len with
    | true, some zs => match fillA (fun i => some (i * n, n)) zs parts with
      | some cs => some (.slice σ.next 0 len (.exact len) n, σ.alloc (.cells false cs))
      | none => none
    | _, _ => none
  | none => none

def makeSliceA (pt : PT) (t : TypeId) (len cap : V) (σ : St) : Option (V × St) :=
  match pt.elem t with
  | some (e, n) => match natOf len, natOf cap, pt.types.get e with
    | some l, some c, some i => match Nat.ble l c && Nat.ble (c * i.bytes) 1000000000 && Nat.ble c 1000000000 with
      | true => match zerosA pt e c with
        | some zs => some (.slice σ.next 0 l (.exact c) n, σ.alloc (.cells false zs))
        | none => none
      | false => none
    | _, _, _ => none
  | none => none

/-- The cells that an append adds, and how many elements they are. -/
def added (pt : PT) (e : TypeId) (n : Nat) (argTypes : Array TypeId) (x : V) (σ : St) : Option (Nat × List V) :=
  match argTypes[1]? with
  | some xt => match pt.und xt with
    | some (.int _) => match natOf x with
      | some k => match Nat.ble k 1000000, zerosA pt e k with
        | true, some zs => some (k, zs)
        | _, _ => none
      | none => none
    | some _ => match lenA x with
      | some k => match readSlice σ n k x with
        | some cs => some (k, cs)
        | none => none
      | none => none
    | none => none
  | none => none

def appendA (pt : PT) (argTypes : Array TypeId) (s x : V) (σ : St) : Option (V × St) :=
  match argTypes[0]? with
  | some t => match pt.elem t with
    | some (e, n) => match added pt e n argTypes x σ, pt.types.get e with
      | some (0, _), _ => match s with
        | .nilslice => some (s, σ)
        | .slice _ _ _ _ _ => some (s, σ)
        | _ => none
      | some (k + 1, cs), some i => match zerosA pt e 0 with
       | none => none
       | some _ => match s with
        | .nilslice => match Nat.ble ((k + 1) * i.bytes) 1000000000 && Nat.ble (k + 1) 1000000000 with
          | true => some (.slice σ.next 0 (k + 1) (.least (k + 1)) n, σ.alloc (.cells false cs))
          | false => none
        | .slice b o len cap sz => match Nat.beq sz n && Nat.ble ((len + (k + 1)) * i.bytes) 1000000000 && Nat.ble (len + (k + 1)) 1000000000 with
          | true => match readSlice σ n len s with
            | some old => match cap with
              | .exact c => match Nat.ble (len + (k + 1)) c with
                | true => match putCells σ b (o + len * n) cs with
                  | some σ' => some (.slice b o (len + (k + 1)) (.exact c) n, σ')
                  | none => none
                | false => some (.slice σ.next 0 (len + (k + 1)) (.least (len + (k + 1))) n, σ.alloc (.cells false (old ++ cs)))
              | .least c => match Nat.ble (len + (k + 1)) c with
                | true => match putCells σ b (o + len * n) cs with
                  | some σ' => some (.slice b o (len + (k + 1)) (.least c) n, σ')
                  | none => none
                | false => match σ.get b, allOne cs with
                  | some (.cells false _), true => some (.slice σ.next 0 (len + (k + 1)) (.least (len + (k + 1))) n, (σ.put b none).alloc (.cells false (old ++ cs)))
                  | _, _ => none
            | none => none
          | false => none
        | _ => none
      | _, _ => none
    | none => none
  | none => none

def copyA (pt : PT) (argTypes : Array TypeId) (d x : V) (σ : St) : Option (V × St) :=
  match argTypes[0]? with
  | some t => match pt.elem t with
    | some (_, n) => match lenA d, lenA x with
      | some dl, some xl => match min xl dl with
        | 0 => match d, x with
          | .str _, _ => none
          | _, _ => some (.int .i64 0, σ)
        | k + 1 => match readSlice σ n (k + 1) x, d with
          | some cs, .slice b o _ _ sz => match Nat.beq sz n with
            | true => match putGrow σ b o cs with
              | some σ' => some (.int .i64 (Int.ofNat (k + 1)), σ')
              | none => none
            | false => none
          | _, _ => none
      | _, _ => none
    | none => none
  | none => none

/-! ### Maps: keys are numbers, strings or bools -/

/-- Are two keys the same? Nothing, if they are of two kinds. -/
def sameKey : V → V → Option Bool
  | .int k a, .int k' b => if k = k' then some (zeq a b) else none
  | .str a, .str b => some (eqBytes a b)
  | _, _ => none

def keyKind : TypeDesc → V → Bool
  | .int _, .int _ _ => true
  | .string, .str _ => true
  | _, _ => false

/-- Where a key stands. -/
def findA (k : V) : List AEntry → Option (Option Nat)
  | [] => some none
  | e :: es => match sameKey k e.key with
    | some true => some (some 0)
    | some false => match findA k es with
      | some (some i) => some (some (i + 1))
      | r => r
    | none => none

def PT.mapOf (pt : PT) (t : TypeId) : Option (TypeId × TypeId) :=
  match pt.und t with
  | some (.map k e) => some (k, e)
  | _ => none

def keyOk (pt : PT) (kt : TypeId) (k : V) : Bool :=
  match pt.und kt with
  | some d => keyKind d k
  | none => false

def withOk (ok : Bool) (v : V) (b : Bool) : V :=
  match ok with
  | true => .tuple [v, .bool b]
  | false => v

def entriesOf (σ : St) (m : V) : Option (List AEntry) :=
  match m with
  | .nilmap => some []
  | .map b => match σ.get b with
    | some (.map es _) => some es
    | _ => none
  | _ => none

def lookIn (pt : PT) (et : TypeId) (k : V) (es : List AEntry) (ok : Bool) : Option V :=
  match findA k es with
  | some (some i) => match es[i]? with
    | some e => some (withOk ok e.val true)
    | none => none
  | some none => match pt.zero et with
    | some z => some (withOk ok z false)
    | none => none
  | none => none

def lookupA (pt : PT) (t : TypeId) (σ : St) (m k : V) (ok : Bool) : Option V :=
  match pt.mapOf t with
  | some (kt, et) => match keyOk pt kt k with
    | true => match entriesOf σ m with
      | some es => lookIn pt et k es ok
      | none => none
    | false => none
  | none => none

def updateA (pt : PT) (t : TypeId) (σ : St) (m k v : V) : Option St :=
  match pt.mapOf t, m with
  | some (kt, _), .map b => match keyOk pt kt k, σ.get b with
    | true, some (.map es clock) => match findA k es with
      | some (some i) => match es[i]? with
        | some e => match setS es i { e with key := k, val := v } with
          | [] => none
          | x :: xs => some (σ.put b (some (.map (x :: xs) clock)))
        | none => none
      | some none => some (σ.put b (some (.map (es ++ [{ key := k, val := v, born := clock }]) (clock + 1))))
      | none => none
    | _, _ => none
  | _, _ => none

def mapEntryA (pt : PT) (t : TypeId) (σ : St) (m k : V) : Option (V × St) :=
  match pt.mapOf t, m with
  | some (kt, et), .map b => match keyOk pt kt k, σ.get b with
    | true, some (.map es clock) => match findA k es with
      | some (some i) => match es[i]? with
        | some e => some (.tuple [e.val, .int .i64 (Int.ofNat e.born)], σ.put b (some (.map (setS es i { e with key := k }) clock)))
        | none => none
      | some none => match pt.zero et with
        | some z => some (.tuple [z, .int .i64 (Int.ofNat clock)], σ.put b (some (.map (es ++ [{ key := k, val := z, born := clock }]) (clock + 1))))
        | none => none
      | none => none
    | _, _ => none
  | _, _ => none

def findBorn (n : Nat) : List AEntry → Option Nat
  | [] => none
  | e :: es => match Nat.beq e.born n with
    | true => some 0
    | false => match findBorn n es with
      | some i => some (i + 1)
      | none => none

def entryStoreA (σ : St) (m stamp v : V) : Option St :=
  match m, natOf stamp with
  | .map b, some n => match σ.get b with
    | some (.map es clock) => match findBorn n es with
      | some i => match es[i]? with
        | some e => some (σ.put b (some (.map (setS es i { e with val := v }) clock)))
        | none => none
      | none => none
    | _ => none
  | _, _ => none

def deleteA (pt : PT) (t : TypeId) (σ : St) (m k : V) : Option St :=
  match pt.mapOf t with
  | some (kt, _) => match keyOk pt kt k with
    | true => match m with
      | .nilmap => some σ
      | .map b => match σ.get b with
        | some (.map es clock) => match findA k es with
          | some (some i) => some (σ.put b (some (.map (es.eraseIdx i) clock)))
          | some none => some (σ.put b (some (.map es clock)))
          | none => none
        | _ => none
      | _ => none
    | false => none
  | none => none

def clearA (pt : PT) (t : TypeId) (σ : St) (x : V) : Option St :=
  match pt.und t with
  | some d => match x with
    | .nilmap | .nilslice | .slice _ _ 0 _ _ => some σ
    | .map b => match σ.get b with
      | some (.map _ clock) => some (σ.put b (some (.map [] clock)))
      | _ => none
    | .slice b o len _ sz => match d with
      | .slice e => match pt.size e, zerosA pt e len with
        | some n, some zs => match Nat.beq n sz with
          | true => putCells σ b o zs
          | false => none
        | _, _ => none
      | _ => none
    | _ => none
  | none => none

def lenOfA (pt : PT) (t : TypeId) (σ : St) (x : V) : Option V :=
  match pt.und t with
  | some d => match d, x with
    | .string, .str s => some (.int .i64 (Int.ofNat s.length))
    | .array n _, _ => some (.int .i64 (Int.ofNat n))
    | .slice _, .nilslice => some (.int .i64 0)
    | .slice _, .slice _ _ n _ _ => some (.int .i64 (Int.ofNat n))
    | .map _ _, .nilmap => some (.int .i64 0)
    | .map _ _, .map b => match σ.get b with
      | some (.map es _) => some (.int .i64 (Int.ofNat es.length))
      | _ => none
    | .pointer a, _ => match pt.und a with
      | some (.array n _) => some (.int .i64 (Int.ofNat n))
      | _ => none
    | _, _ => none
  | none => none

def capOfA (pt : PT) (t : TypeId) (x : V) : Option V :=
  match pt.und t, x with
  | some (.slice _), .nilslice => some (.int .i64 0)
  | some (.slice _), .slice _ _ _ (.exact c) _ => some (.int .i64 (Int.ofNat c))
  | some (.array n _), _ => some (.int .i64 (Int.ofNat n))
  | _, _ => none

def minMaxA (mx : Bool) : V → V → Option V
  | .int k a, .int k' b => if k = k' then some (match mx with
    | true => (match zle b a with | true => .int k a | false => .int k b)
    | false => (match zle a b with | true => .int k a | false => .int k b)) else none
  | _, _ => none

def foldA (f : V → V → Option V) : V → List V → Option V
  | x, [] => some x
  | x, y :: ys => match f x y with
    | some z => foldA f z ys
    | none => none

def structEq (pt : PT) (t : TypeId) (x y : V) : Option Bool :=
  match x, y with
  | .agg xs, .agg ys => match pt.und t with
    | some (.struct fs) => match pt.eqs.get t, plainFields pt fs.toList with
      | some _, true => eqFields pt fs.toList xs ys
      | _, _ => none
    | _ => none
  | _, _ => eqA pt t x y

def binA (pt : PT) (op : BinOp) (t : TypeId) (x y : V) : Option V :=
  match x, y with
  | .int k a, .int k' b => match op with
    | .shl | .shr => shiftOp op k a b
    | _ => if k = k' then intOp op k a b else none
  | .str a, .str b => strOp op a b
  | _, _ => match op with
    | .eql => (match structEq pt t x y with | some r => some (.bool r) | none => none)
    | .neq => (match structEq pt t x y with | some r => some (.bool (!r)) | none => none)
    | _ => none

def unA (op : UnOp) (x : V) : Option V :=
  match op, x with
  | .neg, .int k n => some (wrapA k (0 - n))
  | .xor, .int k n => some (bitsA k (· ^^^ ·) (match k.signed with | true => -1 | false => k.max) n)
  | .not, .bool b => some (.bool (!b))
  | _, _ => none

def convStr (pt : PT) (e : TypeId) (x : V) (σ : St) : Option (V × St) :=
  match pt.und e with
  | some (.int .u8) => match x with
    | .nilslice => some (.str [], σ)
    | .slice b o n c sz => match readSlice σ 1 n (.slice b o n c sz) with
      | some cs => match bytesOfCells cs with
        | some l => some (.str l, σ)
        | none => none
      | none => none
    | _ => none
  | _ => none

def convA (pt : PT) (src dst : TypeId) (x : V) (σ : St) : Option (V × St) :=
  match pt.und src, pt.und dst, x with
  | some _, some (.int k), .int _ n => some (wrapA k n, σ)
  | some _, some .string, .str _ => some (x, σ)
  | some _, some (.slice e), .str s => match pt.und e with
    | some (.int .u8) => some (.slice σ.next 0 s.length (.least s.length) 1, σ.alloc (.cells true (s.map fun c => .int .u8 (Int.ofNat c.toNat))))
    | _ => none
  | some (.slice e), some .string, x => convStr pt e x σ
  | _, _, _ => none

def nextA (σ : St) (it : V) : Option (V × St) :=
  match it with
  | .ptr b 0 => match σ.get b with
    | some (.iter s pos) => match Nat.blt pos s.length with
      | true =>
        match Utf8.decode ⟨s.toArray⟩ pos with
        | (c, width) => some (.tuple [.bool true, .int .i64 (Int.ofNat pos), .int .i32 c], σ.put b (some (.iter s (pos + width))))
      | false => some (.tuple [.bool false], σ)
    | _ => none
  | _ => none

def assertA (pt : PT) (x : V) (want : TypeId) (ok : Bool) : Option V :=
  match pt.und want with
  | some d => match d with
    | .interface _ => none
    | _ => match x with
      | .iface t v => match Nat.beq t want with
        | true => some (match ok with | true => .tuple [v, .bool true] | false => v)
        | false => match ok, pt.zero want with
          | true, some z => some (.tuple [z, .bool false])
          | _, _ => none
      | .niliface => match ok, pt.zero want with
        | true, some z => some (.tuple [z, .bool false])
        | _, _ => none
      | _ => none
  | none => none

def extractA (x : V) (i : Nat) : Option V :=
  match x with
  | .tuple vs => vs[i]?
  | _ => none

/-! ### One operation -/

/-- A call's target and arguments. -/
structure ACall where
  fn : Fn
  args : List V

inductive ANext where
  | val (v : V)
  | skip
  | call (c : ACall)
  | defer (fn : Fn) (captured args : List V)
  | panic (v : V)
  | recover

def operands (ρ : Operand → Option V) : List Operand → Option (List V)
  | [] => some []
  | x :: xs => match ρ x with
    | some v => match operands ρ xs with
      | some vs => some (v :: vs)
      | none => none
    | none => none

def parts (ρ : Operand → Option V) : List (Nat × Operand) → Option (List (Nat × V))
  | [] => some []
  | (i, x) :: xs => match ρ x with
    | some v => match parts ρ xs with
      | some vs => some ((i, v) :: vs)
      | none => none
    | none => none

def optOperand (ρ : Operand → Option V) : Option Operand → Option (Option V)
  | none => some none
  | some x => match ρ x with
    | some v => some (some v)
    | none => none

def builtinA (pt : PT) (b : Builtin) (argTypes : Array TypeId) (args : List V) (σ : St) : Option (ANext × St) :=
  match b, args with
  | .append, [s, x] => match appendA pt argTypes s x σ with
    | some (v, σ') => some (.val v, σ')
    | none => none
  | .copy, [d, x] => match copyA pt argTypes d x σ with
    | some (v, σ') => some (.val v, σ')
    | none => none
  | .len, [x] => match argTypes[0]? with
    | some t => match lenOfA pt t σ x with
      | some v => some (.val v, σ)
      | none => none
    | none => none
  | .cap, [x] => match argTypes[0]? with
    | some t => match capOfA pt t x with
      | some v => some (.val v, σ)
      | none => none
    | none => none
  | .clear, [x] => match argTypes[0]? with
    | some t => match clearA pt t σ x with
      | some σ' => some (.val (.tuple []), σ')
      | none => none
    | none => none
  | .delete, [m, k] => match argTypes[0]? with
    | some t => match deleteA pt t σ m k with
      | some σ' => some (.val (.tuple []), σ')
      | none => none
    | none => none
  | .min, x :: xs => match foldA (minMaxA false) x xs with
    | some v => some (.val v, σ)
    | none => none
  | .max, x :: xs => match foldA (minMaxA true) x xs with
    | some v => some (.val v, σ)
    | none => none
  | .recover, [] => some (.recover, σ)
  | _, _ => none

def rV (σ : St) (r : Option V) : Option (ANext × St) :=
  match r with
  | some x => some (.val x, σ)
  | none => none
def rVS (r : Option (V × St)) : Option (ANext × St) :=
  match r with
  | some (x, σ') => some (.val x, σ')
  | none => none
def rS (r : Option St) : Option (ANext × St) :=
  match r with
  | some σ' => some (.skip, σ')
  | none => none
/-- With one, two, three operands' values. -/
def w1 {α : Type} (ρ : Operand → Option V) (x : Operand) (f : V → Option α) : Option α :=
  match ρ x with
  | some v => f v
  | none => none
def w2 {α : Type} (ρ : Operand → Option V) (x y : Operand) (f : V → V → Option α) : Option α :=
  match ρ x with
  | some v => match ρ y with
    | some u => f v u
    | none => none
  | none => none
def w3 {α : Type} (ρ : Operand → Option V) (x y z : Operand) (f : V → V → V → Option α) : Option α :=
  match ρ x with
  | some v => match ρ y with
    | some u => match ρ z with
      | some t => f v u t
      | none => none
    | none => none
  | none => none

section
variable (pt : PT) (ρ : Operand → Option V) (σ : St)
def oPick (c a b : Operand) : Option (ANext × St) :=
  match ρ c with
  | some (.bool true) => rV σ (ρ a)
  | some (.bool false) => rV σ (ρ b)
  | _ => none
def oAlloc (e : TypeId) : Option (ANext × St) :=
  match pt.zero e with
  | some z => some (.val (.ptr σ.next 0), σ.alloc (.cells false z.cells))
  | none => none
def oBox (x : Operand) : Option (ANext × St) := w1 ρ x fun z => some (.val (.ptr σ.next 0), σ.alloc (.cells false z.cells))
def oBuild (t : TypeId) (ps : Array (Nat × Operand)) : Option (ANext × St) :=
  match parts ρ ps.toList with
  | some l => rV σ (buildA pt t l)
  | none => none
def oBuildSlice (t : TypeId) (n : Nat) (ps : Array (Nat × Operand)) : Option (ANext × St) :=
  match parts ρ ps.toList with
  | some l => rVS (buildSliceA pt t n l σ)
  | none => none
def oLoad (t : TypeId) (a : Operand) : Option (ANext × St) := w1 ρ a fun a => rV σ (loadA pt t σ a)
def oStore (t : TypeId) (a x : Operand) : Option (ANext × St) := w2 ρ a x fun a x => rS (storeA pt t σ a x)
def oNilCheck (x : Operand) : Option (ANext × St) :=
  match ρ x with
  | some (.ptr b o) => some (.val (.ptr b o), σ)
  | some (.func (.func f) a c) => some (.val (.func (.func f) a c), σ)
  | some (.func (.yield l) a c) => some (.val (.func (.yield l) a c), σ)
  | _ => none
def oBin (op : BinOp) (t : TypeId) (x y : Operand) : Option (ANext × St) := w2 ρ x y fun x y => rV σ (binA pt op t x y)
def oUn (op : UnOp) (x : Operand) : Option (ANext × St) := w1 ρ x fun x => rV σ (unA op x)
def oConv (src dst : TypeId) (x : Operand) : Option (ANext × St) := w1 ρ x fun x => rVS (convA pt src dst x σ)
def oIface (t : TypeId) (x : Operand) : Option (ANext × St) :=
  match ρ x, pt.und t with
  | some x, some d => match d with
    | .interface _ => none
    | _ => some (.val (.iface t x), σ)
  | _, _ => none
def oMakeFunc (fn : Fn) (first captured : Array Operand) : Option (ANext × St) :=
  match fn, operands ρ first.toList, operands ρ captured.toList with
  | .func f, some a, some c => some (.val (.func (.func f) a c), σ)
  | _, _, _ => none
def oMakeMap (t : TypeId) (r : Option Operand) : Option (ANext × St) :=
  match r with
  | none => some (.val (.map σ.next), σ.alloc (.map [] 0))
  | some x => match ρ x, pt.und t with
    | some (.int _ _), some (.map _ _) => some (.val (.map σ.next), σ.alloc (.map [] 0))
    | _, _ => none
def oMakeSlice (t : TypeId) (l c : Operand) : Option (ANext × St) := w2 ρ l c fun l c => rVS (makeSliceA pt t l c σ)
def oSlice (t : TypeId) (x : Operand) (lo hi mx : Option Operand) : Option (ANext × St) :=
  match ρ x, optOperand ρ lo, optOperand ρ hi, optOperand ρ mx with
  | some x, some lo, some hi, some mx => rV σ (sliceA pt t σ x lo hi mx)
  | _, _, _, _ => none
def oFieldAddr (s : TypeId) (x : Operand) (f : Nat) : Option (ANext × St) := w1 ρ x fun x => rV σ (fieldAddrA pt s x f)
def oField (t : TypeId) (x : Operand) (f : Nat) : Option (ANext × St) := w1 ρ x fun x => rV σ (fieldA pt t x f)
def oIndexAddr (t : TypeId) (x i : Operand) : Option (ANext × St) := w2 ρ x i fun x i => rV σ (indexAddrA pt t x i)
def oIndex (t : TypeId) (x i : Operand) : Option (ANext × St) := w2 ρ x i fun x i => rV σ (indexA pt t x i)
def oLookup (t : TypeId) (m k : Operand) (ok : Bool) : Option (ANext × St) := w2 ρ m k fun m k => rV σ (lookupA pt t σ m k ok)
def oUpdate (t : TypeId) (m k x : Operand) : Option (ANext × St) := w3 ρ m k x fun m k x => rS (updateA pt t σ m k x)
def oMapEntry (t : TypeId) (m k : Operand) : Option (ANext × St) := w2 ρ m k fun m k => rVS (mapEntryA pt t σ m k)
def oEntryStore (m s x : Operand) : Option (ANext × St) := w3 ρ m s x fun m s x => rS (entryStoreA σ m s x)
def oRange (t : TypeId) (x : Operand) : Option (ANext × St) :=
  match pt.und t, ρ x with
  | some .string, some (.str s) => some (.val (.ptr σ.next 0), σ.alloc (.iter s 0))
  | _, _ => none
def oNext (it : Operand) (isString : Bool) : Option (ANext × St) :=
  match isString with
  | true => w1 ρ it fun it => rVS (nextA σ it)
  | false => none
def oAssert (x : Operand) (want : TypeId) (ok : Bool) : Option (ANext × St) := w1 ρ x fun x => rV σ (assertA pt x want ok)
def oExtract (x : Operand) (i : Nat) : Option (ANext × St) := w1 ρ x fun x => rV σ (extractA x i)
def oCallV (f : Operand) (args : List V) : Option (ANext × St) :=
  match ρ f with
  | some (.func fn first captured) => match fn, captured with
    | .func g, c => some (.call { fn := .func g, args := first ++ (args ++ c) }, σ)
    | .yield l, [] => some (.call { fn := .yield l, args := first ++ args }, σ)
    | _, _ => none
  | _ => none
def oCall (c : Call) : Option (ANext × St) :=
  match operands ρ c.args.toList with
  | some args => match c.callee with
    | .builtin b => builtinA pt b c.argTypes args σ
    | .value f => oCallV ρ σ f args
    | .invoke _ _ => none
  | none => none
def oDefer (c : Call) : Option (ANext × St) :=
  match operands ρ c.args.toList, c.callee with
  | some args, .value f => match ρ f with
    | some (.func (.func g) first captured) => some (.defer (.func g) captured (first ++ args), σ)
    | _ => none
  | _, _ => none
end

def opA (pt : PT) (ρ : Operand → Option V) (o : Oper) (σ : St) : Option (ANext × St) :=
  match o.op with
  | .move x => rV σ (ρ x)
  | .assign x => rV σ (ρ x)
  | .pick c a b => oPick ρ σ c a b
  | .alloc e => oAlloc pt σ e
  | .box _ x => oBox ρ σ x
  | .build t ps => oBuild pt ρ σ t ps
  | .buildSlice t n ps => oBuildSlice pt ρ σ t n ps
  | .load t a => oLoad pt ρ σ t a
  | .store t a x => oStore pt ρ σ t a x
  | .nilCheck x => oNilCheck ρ σ x
  | .binOp op t x y _ => oBin pt ρ σ op t x y
  | .unOp op _ x => oUn ρ σ op x
  | .convert src dst x => oConv pt ρ σ src dst x
  | .makeInterface t x => oIface pt ρ σ t x
  | .makeFunc fn first captured => oMakeFunc ρ σ fn first captured
  | .makeMap t r => oMakeMap pt ρ σ t r
  | .makeSlice t l c => oMakeSlice pt ρ σ t l c
  | .slice t x lo hi mx => oSlice pt ρ σ t x lo hi mx
  | .fieldAddr s x f => oFieldAddr pt ρ σ s x f
  | .field t x f => oField pt ρ σ t x f
  | .indexAddr t x i => oIndexAddr pt ρ σ t x i
  | .index t x i => oIndex pt ρ σ t x i
  | .lookup t m k ok => oLookup pt ρ σ t m k ok
  | .mapUpdate t m k x => oUpdate pt ρ σ t m k x
  | .insert t m k x => oUpdate pt ρ σ t m k x
  | .mapEntry t m k => oMapEntry pt ρ σ t m k
  | .entryStore _ m s x => oEntryStore ρ σ m s x
  | .range t x => oRange pt ρ σ t x
  | .next it isString => oNext ρ σ it isString
  | .typeAssert x _ want ok => oAssert pt ρ σ x want ok
  | .extract x i => oExtract ρ σ x i
  | .call c => oCall pt ρ σ c
  | .defer c => oDefer ρ σ c
  | _ => none

end
end Go.AI

/- The abstract interpreter, part 5: regions (in their order, and with orders drawn), code, calls. -/
namespace Go.AI
noncomputable section

inductive ADefer where
  | call (fn : Fn) (captured args : List V)
  | mark (r : Nat)

structure AAct where
  tmps : T V
  defers : List ADefer

inductive AExit where
  | normal
  | exit (id : Nat)
  | ret

inductive AEnd where
  | ret (v : V)

def evalA (tm : T V) : Operand → Option V
  | .tmp t => tm.get t
  | .const v => ofValue 6 v
  | .global _ => none
  | .func f => some (.func (.func f) [] [])

def nth {α : Type} : List α → Nat → Option α
  | [], _ => none
  | x :: _, 0 => some x
  | _ :: xs, n + 1 => nth xs n

theorem nth_eq {α : Type} : ∀ (l : List α) (n : Nat), nth l n = l[n]?
  | [], _ => rfl
  | _ :: _, 0 => rfl
  | _ :: xs, n + 1 => by simpa [nth] using nth_eq xs n

def putA (n : Nat) (a : AAct) (dst : Option Tmp) (v : V) : Option AAct :=
  match dst with
  | none => some a
  | some d => match Nat.blt d n with
    | true => some { a with tmps := a.tmps.set d v }
    | false => none

def wantedA (ops : List Oper) (tm : T V) (o : Oper) : Option Bool :=
  match o.guard with
  | none => some true
  | some (j, want) => match nth ops j with
    | some oj => match oj.dst with
      | some d => match tm.get d with
        | some (.bool b) => some (match b, want with | true, true => true | false, false => true | _, _ => false)
        | some _ => some false
        | none => none
      | none => some false
    | none => some false

section
variable (call : ACall → St → Option (AEnd × St)) (pt : PT) (n : Nat) (rnd : Option Nat)

/-- One operation of a region, wanted. -/
def stepA (o : Oper) (a : AAct) (σ : St) : Option (V × AAct × St) :=
  match opA pt (evalA a.tmps) o σ with
  | some (.val v, σ') => match putA n a o.dst v with
    | some a' => some (v, a', σ')
    | none => none
  | some (.skip, σ') => match putA n a o.dst .undef with
    | some a' => some (.undef, a', σ')
    | none => none
  | some (.call c, σ') => match call c σ' with
    | some (.ret v, σ'') => match putA n a o.dst v with
      | some a' => some (v, a', σ'')
      | none => none
    | none => none
  | some (.defer fn captured args, σ') => match rnd with
    | none => match putA n { a with defers := .call fn captured args :: a.defers } o.dst .undef with
      | some a' => some (.undef, a', σ')
      | none => none
    | some _ => none
  | _ => none

/-- What comes behind one operation. -/
def seqStep (all : List Oper) (o : Oper) (next : AAct → St → Option (AAct × St)) (a : AAct) (σ : St) : Option (AAct × St) :=
  match wantedA all a.tmps o with
  | some true => match stepA call pt n rnd o a σ with
    | some (_, a', σ') => next a' σ'
    | none => none
  | some false => match putA n a o.dst .undef with
    | some a' => next a' σ
    | none => none
  | none => none

/-- Operations in their order. -/
def seqA (all l : List Oper) : AAct → St → Option (AAct × St) :=
  List.rec (motive := fun _ => AAct → St → Option (AAct × St)) (fun a σ => some (a, σ)) (fun o _ next a σ => seqStep call pt n rnd all o next a σ) l
theorem seqA_nil (all : List Oper) (a : AAct) (σ : St) : seqA call pt n rnd all [] a σ = some (a, σ) := rfl
theorem seqA_cons (all : List Oper) (o : Oper) (os : List Oper) (a : AAct) (σ : St) :
    seqA call pt n rnd all (o :: os) a σ = seqStep call pt n rnd all o (seqA call pt n rnd all os) a σ := rfl

/-! ### Regions whose order is drawn -/

inductive OpKind where
  | pure
  | read
  | make
  | effect

def calleeKind : Callee → OpKind
  | .builtin .len => .read
  | .builtin .cap => .read
  | .builtin .min => .read
  | .builtin .max => .read
  | _ => .effect

def opKind (o : Oper) : OpKind :=
  match o.op with
  | .move _ | .assign _ | .pick .. | .build .. | .nilCheck _ | .binOp .. | .unOp .. | .makeInterface .. | .makeFunc .. | .fieldAddr .. | .field .. | .indexAddr .. | .index ..
  | .typeAssert .. | .extract .. => .pure
  | .alloc _ | .box .. | .buildSlice .. | .makeSlice .. => .make
  | .load .. | .lookup .. | .slice .. => .read
  | .convert .. => .read
  | .call c => calleeKind c.callee
  | _ => .effect

def isEffect (o : Oper) : Bool := match opKind o with | .effect => true | _ => false
def isRead (o : Oper) : Bool := match opKind o with | .read => true | _ => false

def edgeOn (m : Nat) (masks : List Nat) (e : Edge) : Nat :=
  match Region.binds .any e with
  | true => Nat.lor m (Nat.lor (Nat.pow 2 e.on) (match nth masks e.on with | some k => k | none => 0))
  | false => m

/-- Of each operation, which lie ahead of it, as bits. -/
def masksFrom : List Oper → List Nat → List Nat
  | [], acc => acc
  | o :: os, acc => masksFrom os (acc ++ [o.after.toList.foldl (fun m e => edgeOn m acc e) 0])
def masks (ops : List Oper) : List Nat := masksFrom ops []

def bit (m i : Nat) : Bool := Nat.beq (Nat.land (Nat.shiftRight m i) 1) 1
def befB (ms : List Nat) (i j : Nat) : Bool := match nth ms j with | some m => bit m i | none => false

/-- The next operation of our own order: what is ready and no effect, else the first effect that is ready. -/
def pickFrom (ms : List Nat) (ops : List Oper) (done : Nat) (eff : Bool) : List Oper → Nat → Option Nat
  | [], _ => none
  | o :: os, i =>
    match bit done i with
    | true => pickFrom ms ops done eff os (i + 1)
    | false => match (match isEffect o, eff with | true, true => true | false, false => true | _, _ => false), nth ms i with
      | true, some m => match Nat.beq (Nat.land m done) m with
        | true => some i
        | false => pickFrom ms ops done eff os (i + 1)
      | _, _ => pickFrom ms ops done eff os (i + 1)

def orderFrom (ms : List Nat) (ops : List Oper) : Nat → Nat → List Nat
  | 0, _ => []
  | fuel + 1, done =>
    match pickFrom ms ops done false ops 0 with
    | some i => i :: orderFrom ms ops fuel (Nat.lor done (Nat.pow 2 i))
    | none => match pickFrom ms ops done true ops 0 with
      | some i => i :: orderFrom ms ops fuel (Nat.lor done (Nat.pow 2 i))
      | none => []

/-- An operation that our order has behind it, and what it gave. -/
structure Ent where
  i : Nat
  o : Oper
  want : Bool
  tm : T V
  v : V
  next : Nat

mutual
def sameV : V → V → Bool
  | .bool a, .bool b => (match a, b with | true, true => true | false, false => true | _, _ => false)
  | .int k a, .int j b => decide (k = j) && zeq a b
  | .flo k a, .flo j b => decide (k = j) && Nat.beq a b
  | .cpl k a c, .cpl j b d => decide (k = j) && Nat.beq a b && Nat.beq c d
  | .str a, .str b => eqBytes a b
  | .nilptr, .nilptr => true
  | .ptr a o, .ptr b p => Nat.beq a b && Nat.beq o p
  | .nilslice, .nilslice => true
  | .slice a o l c s, .slice b p m d t => Nat.beq a b && Nat.beq o p && Nat.beq l m && Nat.beq s t && (match c, d with | .least x, .least y => Nat.beq x y | .exact x, .exact y => Nat.beq x y | _, _ => false)
  | .nilmap, .nilmap => true
  | .map a, .map b => Nat.beq a b
  | .func f a c, .func g b d => decide (f = g) && sameVs a b && sameVs c d
  | .nilfunc, .nilfunc => true
  | .iface t a, .iface u b => Nat.beq t u && sameV a b
  | .niliface, .niliface => true
  | .agg a, .agg b => sameVs a b
  | .tuple a, .tuple b => sameVs a b
  | _, _ => false
def sameVs : List V → List V → Bool
  | [], [] => true
  | x :: xs, y :: ys => sameV x y && sameVs xs ys
  | _, _ => false
end

/-- A slice of a slice: it looks at no memory. -/
def ofSlice (tm : T V) (o : Oper) : Bool :=
  match o.op with
  | .slice _ x _ _ _ => match evalA tm x with
    | some (.slice _ _ _ _ _) => true
    | _ => false
  | _ => false

/-- Do the reads that were done give what they gave, here too? -/
def recheck (σ : St) : List Ent → Bool
  | [] => true
  | p :: ps => match ofSlice p.tm p.o with
    | true => recheck σ ps
    | false => match opA pt (evalA p.tm) p.o σ with
      | some (.val v, σ') => match Nat.beq σ'.next σ.next with
        | true => sameV v p.v && recheck σ ps
        | false => false
      | _ => false

def dropAhead (ms : List Nat) (j : Nat) : List Ent → List Ent
  | [] => []
  | p :: ps => match befB ms p.i j with
    | true => dropAhead ms j ps
    | false => p :: dropAhead ms j ps

/-- An operation without effects. -/
def calmA (o : Oper) (a : AAct) (σ : St) : Option (V × AAct × St) :=
  match opA pt (evalA a.tmps) o σ with
  | some (.val v, σ') => match isRead o, Nat.beq σ'.next σ.next with
    | true, false => none
    | _, _ => match putA n a o.dst v with
      | some a' => some (v, a', σ')
      | none => none
  | _ => none

/-- Our own order: what has no effects goes ahead; before each effect, and at the end, the reads that may come late are looked at again. -/
def drawA (ms : List Nat) (ops : List Oper) : List Nat → List Ent → AAct → St → Option (AAct × St)
  | [], ps, a, σ => match recheck pt σ ps with
    | true => some (a, σ)
    | false => none
  | j :: js, ps, a, σ => match nth ops j with
    | none => none
    | some o => match wantedA ops a.tmps o with
      | none => none
      | some w =>
        match isEffect o with
        | true => match recheck pt σ ps with
          | false => none
          | true => match w with
            | false => match putA n a o.dst .undef with
              | some a' => drawA ms ops js (dropAhead ms j ps) a' σ
              | none => none
            | true => match stepA call pt n rnd o a σ with
              | some (_, a', σ') => drawA ms ops js (dropAhead ms j ps) a' σ'
              | none => none
        | false => match w with
          | false => match putA n a o.dst .undef with
            | some a' => drawA ms ops js ps a' σ
            | none => none
          | true => match calmA pt n o a σ with
            | some (v, a', σ') => drawA ms ops js (match isRead o with | true => { i := j, o := o, want := true, tm := a.tmps, v := v, next := σ.next } :: ps | false => ps) a' σ'
            | none => none

def tmpsOf : List Operand → List Tmp
  | [] => []
  | .tmp t :: xs => t :: tmpsOf xs
  | _ :: xs => tmpsOf xs

def looksAt (ops : List Oper) (o : Oper) : List Tmp :=
  match o.guard with
  | some (g, _) => match nth ops g with
    | some og => match og.dst with
      | some d => d :: tmpsOf o.op.operands.toList
      | none => tmpsOf o.op.operands.toList
    | none => tmpsOf o.op.operands.toList
  | none => tmpsOf o.op.operands.toList

def memN (d : Nat) : List Nat → Bool
  | [] => false
  | x :: xs => match Nat.beq x d with
    | true => true
    | false => memN d xs

/-- Of each operation: is it in the order behind 'pre', not ahead of what is there; do all later ones wait for an effect? -/
def orderOk (ops : List Oper) (ms : List Nat) : List Nat → List Nat → Bool
  | _, [] => true
  | pre, j :: js => match nth ops j with
    | none => false
    | some o => match pre.all fun i => match Nat.beq i j with | true => false | false => !befB ms j i with
      | false => false
      | true => match isEffect o with
        | false => orderOk ops ms (j :: pre) js
        | true => match js.all fun i => befB ms j i with
          | true => orderOk ops ms (j :: pre) js
          | false => false

/-- Who touches the temporary d, that operation i writes, stands in an order with it. -/
def tmpOk (ops : List Oper) (ms : List Nat) (i d : Nat) : List Oper → Nat → Bool
  | [], _ => true
  | o :: os, j => match (match Nat.beq i j with
      | true => true
      | false => match (match memN d (looksAt ops o) with | true => true | false => (match o.dst with | some e => Nat.beq e d | none => false)) with
        | false => true
        | true => match befB ms i j with | true => true | false => befB ms j i) with
    | true => tmpOk ops ms i d os (j + 1)
    | false => false

/-- Edges lead back; each operation stands in our order; temporaries. -/
def opsOk (ops : List Oper) (ms c : List Nat) : List Oper → Nat → Bool
  | [], _ => true
  | o :: os, i => match o.after.toList.all fun e => match Region.binds .any e with | true => Nat.blt e.on i | false => true with
    | false => false
    | true => match memN i c with
      | false => false
      | true => match (match o.dst with | some d => tmpOk ops ms i d ops 0 | none => true) with
        | true => opsOk ops ms c os (i + 1)
        | false => false

/-- The static conditions on a region and our order of it. -/
def planOk (ops : List Oper) (ms c : List Nat) : Bool :=
  match orderOk ops ms [] c with
  | true => opsOk ops ms c ops 0
  | false => false

def regionA (ops : Array Oper) (draw : Bool) (a : AAct) (σ : St) : Option (AAct × St) :=
  match draw with
  | false => seqA call pt n rnd ops.toList ops.toList a σ
  | true =>
    match planOk ops.toList (masks ops.toList) (orderFrom (masks ops.toList) ops.toList ops.toList.length 0) with
    | true => drawA call pt n rnd (masks ops.toList) ops.toList (orderFrom (masks ops.toList) ops.toList ops.toList.length 0) [] a σ
    | false => none

def loopA {S R : Type} (f : S → Option (Sum S R)) : Nat → S → Option (Sum S R)
  | 0, s => f s
  | k + 1, s => match loopA f k s with
    | some (.inl s') => loopA f k s'
    | r => r

def enterLoopA (fn : FuncId) (a : AAct) (ps : Array Tmp) (assign body : Code) (σ : St) : Option (Nat × AAct × St) :=
  match rnd with
  | none =>
    some (σ.next + 1, { a with defers := .mark σ.next :: a.defers },
      (σ.alloc (.deferred false)).alloc (.loop { state := .ready, pending := none, fn := fn, ntmps := n, tmps := a.tmps, params := ps, assign := assign, body := body, defers := σ.next }))
  | some l => match σ.get l with
    | some (.loop L) => some (σ.next, a, σ.alloc (.loop { state := .ready, pending := none, fn := fn, ntmps := n, tmps := a.tmps, params := ps, assign := assign, body := body, defers := L.defers }))
    | _ => none

def endLoopA (l : Nat) (σ : St) : Option (Option Code × St) :=
  match σ.get l with
  | some (.loop L) => match L.state with
    | .busy => none
    | _ => some (L.pending, σ.put l (some (.loop { L with state := .exhausted })))
  | _ => none

abbrev Kont := AAct → St → Option (AExit × AAct × St)
def exRegion (ops : Array Oper) (draw : Bool) : Kont := fun a σ =>
  match regionA call pt n rnd ops draw a σ with
  | some (a', σ') => some (.normal, a', σ')
  | none => none
def exSeq (x y : Kont) : Kont := fun a σ =>
  match x a σ with
  | some (.normal, a', σ') => y a' σ'
  | r => r
def exCond (c : Operand) (x y : Kont) : Kont := fun a σ =>
  match evalA a.tmps c with
  | some (.bool true) => x a σ
  | some (.bool false) => y a σ
  | _ => none
def exBlock (id : Nat) (x : Kont) : Kont := fun a σ =>
  match x a σ with
  | some (.exit j, a', σ') => match Nat.beq j id with
    | true => some (.normal, a', σ')
    | false => some (.exit j, a', σ')
  | r => r
def exRound (x : Kont) (s : AAct × St) : Option (Sum (AAct × St) (AExit × AAct × St)) :=
  match x s.1 s.2 with
  | some (.normal, a', σ') => some (.inl (a', σ'))
  | some (.exit j, a', σ') => some (.inr (AExit.exit j, a', σ'))
  | some (.ret, a', σ') => some (.inr (AExit.ret, a', σ'))
  | none => none
def exLoop (x : Kont) : Kont := fun a σ =>
  match loopA (exRound x) 40 (a, σ) with
  | some (.inr r) => some r
  | _ => none
def hasBody (f : FuncId) : Bool :=
  match pt.funcs.get f with
  | some fn => match fn.body with
    | some _ => true
    | none => false
  | none => false
def exRange (fn : FuncId) (f : Operand) (ps : Array Tmp) (assign body : Code) : Kont := fun a σ =>
  match enterLoopA n rnd fn a ps assign body σ with
  | some (l, a', σ') => match evalA a.tmps f with
    | some (.func (.func g) first captured) => match hasBody pt g with
      | true => match call { fn := .func g, args := first ++ ([.func (.yield l) [] []] ++ captured) } σ' with
        | some (.ret _, σ'') => match endLoopA l σ'' with
          | some (none, σ₃) => some (.normal, a', σ₃)
          | some (some (.exit j), σ₃) => some (.exit j, a', σ₃)
          | some (some .ret, σ₃) => some (.ret, a', σ₃)
          | _ => none
        | none => none
      | false => none
    | _ => none
  | none => none

def execA (fn : FuncId) (c : Code) : Kont :=
  Code.rec (motive := fun _ => Kont)
    (skip := fun a σ => some (.normal, a, σ))
    (region := fun _ ops draw => exRegion call pt n rnd ops draw)
    (seq := fun _ _ x y => exSeq x y)
    (cond := fun c _ _ x y => exCond c x y)
    (block := fun id _ x => exBlock id x)
    (loop := fun _ x => exLoop x)
    (rangeFunc := fun f ps assign body _ _ => exRange call pt n rnd fn f ps assign body)
    (exit := fun id a σ => some (.exit id, a, σ))
    (scope := fun _ _ _ _ => none)
    (label := fun _ _ _ => none)
    (goto := fun _ _ _ => none)
    (ret := fun a σ => some (.ret, a, σ))
    (refuse := fun _ _ _ => none) c

/-- What the result variables hold. -/
def resultsA (tm : T V) (σ : St) : List ResultVar → Option (List V)
  | [] => some []
  | .tmp t :: rs => match tm.get t, resultsA tm σ rs with
    | some v, some vs => some (v :: vs)
    | _, _ => none
  | .cell a t :: rs => match tm.get a with
    | some p => match loadA pt t σ p, resultsA tm σ rs with
      | some v, some vs => some (v :: vs)
      | _, _ => none
    | none => none

def oneOf : List V → V
  | [v] => v
  | vs => .tuple vs

/-- A function's body. -/
def bodyA (f : FuncId) (args : List V) (σ : St) : Option (Func × AAct × St) :=
  match pt.funcs.get f with
  | some fn => match fn.body with
    | some code => match Nat.ble args.length fn.ntmps with
      | true => match execA call pt fn.ntmps none f code { tmps := T.ofList args, defers := [] } σ with
        | some (.normal, a, σ') => some (fn, a, σ')
        | some (.ret, a, σ') => some (fn, a, σ')
        | _ => none
      | false => none
    | none => none
  | none => none

/-- The deferred calls, then the results. -/
def leaveA (rs : List ResultVar) (tm : T V) : List ADefer → St → Option (AEnd × St)
  | [], σ => match resultsA pt tm σ rs with
    | some vs => some (.ret (oneOf vs), σ)
    | none => none
  | .mark r :: ds, σ => match σ.get r with
    | some (.deferred false) => leaveA rs tm ds (σ.put r (some (.deferred true)))
    | _ => none
  | .call fn captured args :: ds, σ => match fn with
    | .func f => match bodyA call pt f (args ++ captured) σ with
      | some (g, a, σ') => match a.defers, resultsA pt a.tmps σ' g.results.toList with
        | [], some _ => leaveA rs tm ds σ'
        | _, _ => none
      | none => none
    | _ => none

end

def setTmps (n : Nat) : List Tmp → List V → T V → Option (T V)
  | [], [], t => some t
  | p :: ps, v :: vs, t => match Nat.blt p n with
    | true => setTmps n ps vs (t.set p v)
    | false => none
  | _, _, _ => none

abbrev Sums := FuncId → Option (List V → St → Option (AEnd × St))

/-- What the summaries say of a call. -/
def saysA (sm : Sums) (f : FuncId) (args : List V) (σ : St) : Option (AEnd × St) :=
  match sm f with
  | some s => s args σ
  | none => none

def callN (pt : PT) (sm : Sums) : Nat → ACall → St → Option (AEnd × St)
  | 0, _, _ => none
  | k + 1, c, σ =>
    match c.fn with
    | .func f => match saysA sm f c.args σ with
      | some r => some r
      | none => match bodyA (callN pt sm k) pt f c.args σ with
        | some (fn, a, σ') => leaveA (callN pt sm k) pt fn.results.toList a.tmps a.defers σ'
        | none => none
    | .yield l => match σ.get l with
      | some (.loop L) => match setTmps L.ntmps L.params.toList c.args L.tmps with
        | some tm => match execA (callN pt sm k) pt L.ntmps (some l) L.fn L.assign { tmps := tm, defers := [] } σ with
          | some (.normal, a, σ') => match σ'.get l with
            | some (.loop L') => match L'.state with
              | .ready => match execA (callN pt sm k) pt L.ntmps (some l) L.fn L.body a (σ'.put l (some (.loop { L' with state := .busy }))) with
                | some (e, _, σ₂) => match σ₂.get l with
                  | some (.loop L₂) => match e with
                    | .normal => some (.ret (.bool true), σ₂.put l (some (.loop { L₂ with state := .ready, pending := none })))
                    | .exit j => some (.ret (.bool false), σ₂.put l (some (.loop { L₂ with state := .done, pending := some (.exit j) })))
                    | .ret => some (.ret (.bool false), σ₂.put l (some (.loop { L₂ with state := .done, pending := some .ret })))
                  | _ => none
                | none => none
              | _ => none
            | _ => none
          | _ => none
        | none => none
      | _ => none
    | _ => none

def ptOf (P : Program) (eqs : T Unit) : PT := { types := T.ofList P.types.toList, funcs := T.ofList P.funcs.toList, eqs := eqs }

end
end Go.AI
