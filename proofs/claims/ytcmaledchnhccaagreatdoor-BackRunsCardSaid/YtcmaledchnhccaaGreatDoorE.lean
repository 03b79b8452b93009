/- An executor for closed runs, and that the model does what it says: memory, operations. No condition. -/
import Derived.Test.YtcmaledchnhccaaGreatDoorA
import Derived.Orders
import Derived.Lib.Bytealg
import Derived.Lib.Builder
import Derived.Lib.UnsafeStr
/-! The memory of an executor for closed runs: abstract values and blocks, and what they stand for. No condition. -/
namespace Go.Proofs.YtcmaledchnhccaaGreatDoor
open Go Go.RowKit

/-! ### a store by number -/
inductive Tr (α : Type) where
  | nil
  | node (v : Option α) (l r : Tr α)
namespace Tr
variable {α : Type}
def get : Tr α → Nat → Option α
  | .nil, _ => none
  | .node v l r, n => match n with
    | 0 => v
    | m + 1 => match m % 2 with
      | 0 => l.get (m / 2)
      | _ => r.get (m / 2)
def set : Nat → Tr α → Nat → Option α → Tr α
  | 0, t, _, _ => t
  | f + 1, .nil, n, a => (match n with
    | 0 => .node a .nil .nil
    | m + 1 => match m % 2 with
      | 0 => .node none (set f .nil (m / 2) a) .nil
      | _ => .node none .nil (set f .nil (m / 2) a))
  | f + 1, .node v l r, n, a => (match n with
    | 0 => .node a l r
    | m + 1 => match m % 2 with
      | 0 => .node v (set f l (m / 2) a) r
      | _ => .node v l (set f r (m / 2) a))
theorem get_nil (n : Nat) : (Tr.nil : Tr α).get n = none := rfl
theorem get_set : ∀ (f : Nat) (t : Tr α) (n : Nat) (a : Option α) (i : Nat), n + 1 < 2 ^ f → (t.set f n a).get i = if i = n then a else t.get i := by
  intro f
  induction f with
  | zero => intro t n a i h; simp at h
  | succ f ih =>
    intro t n a i h
    have hp : 2 ^ (f + 1) = 2 * 2 ^ f := by rw [Nat.pow_succ]; omega
    have step : ∀ (l : Tr α) (m j : Nat), n = m + 1 → (l.set f (m / 2) a).get j = if j = m / 2 then a else l.get j := fun l m j hm => ih l (m / 2) a j (by omega)
    have hm2 : ∀ m : Nat, m % 2 = 0 ∨ m % 2 = 1 := fun m => by omega
    have par : ∀ m : Nat, (m % 2 = 0 → m = 2 * (m / 2)) ∧ (m % 2 = 1 → m = 2 * (m / 2) + 1) := fun m => by omega
    cases t with
    | nil =>
      cases n with
      | zero => cases i <;> simp [set, get]
                rename_i k; rcases hm2 k with e | e <;> simp [e]
      | succ m =>
        rcases hm2 m with e | e
        · cases i with
          | zero => simp [set, get, e]
          | succ k =>
            simp only [set, get, e]
            rcases hm2 k with e' | e'
            · simp only [e', step _ _ _ rfl, get]
              by_cases hk : k = m
              · simp [hk]
              · rw [if_neg (by have := par k; have := par m; omega), if_neg (by omega)]
            · simp only [e']
              rw [if_neg (by have := par k; have := par m; omega)]
        · cases i with
          | zero => simp [set, get, e]
          | succ k =>
            simp only [set, get, e]
            rcases hm2 k with e' | e'
            · simp only [e']
              rw [if_neg (by have := par k; have := par m; omega)]
            · simp only [e', step _ _ _ rfl, get]
              by_cases hk : k = m
              · simp [hk]
              · rw [if_neg (by have := par k; have := par m; omega), if_neg (by omega)]
    | node v l r =>
      cases n with
      | zero => cases i <;> simp [set, get]
      | succ m =>
        rcases hm2 m with e | e
        · cases i with
          | zero => simp [set, get, e]
          | succ k =>
            simp only [set, get, e]
            rcases hm2 k with e' | e'
            · simp only [e', step _ _ _ rfl]
              by_cases hk : k = m
              · simp [hk]
              · rw [if_neg (by have := par k; have := par m; omega), if_neg (by omega)]
            · simp only [e']
              rw [if_neg (by have := par k; have := par m; omega)]
        · cases i with
          | zero => simp [set, get, e]
          | succ k =>
            simp only [set, get, e]
            rcases hm2 k with e' | e'
            · simp only [e']
              rw [if_neg (by have := par k; have := par m; omega)]
            · simp only [e', step _ _ _ rfl]
              by_cases hk : k = m
              · simp [hk]
              · rw [if_neg (by have := par k; have := par m; omega), if_neg (by omega)]
end Tr

/-! ### values -/
inductive XV where
  | int (k : IntKind) (n : Int)
  | bool (b : Bool)
  | str (s : List UInt8)
  | nilp
  | ptr (g o : Nat)
  | nils
  | sl (g o len cap : Nat)
  | so (g a s len : Nat)
  | fn (f : FuncId) (caps : List XV)
  | nilf
  | ifc (t : TypeId) (x : XV)
  | nili
  | agg (cs : List XV)
  | tup (vs : List XV)

/-- one cell's worth -/
def XV.sc : XV → Bool
  | .agg _ | .tup _ => false
  | _ => true
def XV.cells : XV → List XV
  | .agg cs => cs
  | x => [x]

/-- which block of the world is meant by a number, and its room -/
abbrev Phi := Nat → Option (Nat × Nat)
def Phi.le (φ φ' : Phi) : Prop := ∀ g p, φ g = some p → φ' g = some p
theorem Phi.le_refl (φ : Phi) : φ.le φ := fun _ _ h => h
theorem Phi.le_trans {a b c : Phi} (h : a.le b) (k : b.le c) : a.le c := fun g o e => k g o (h g o e)

inductive VX (φ : Phi) : XV → Value → Prop
  | int (k : IntKind) (n : Int) : VX φ (.int k n) (.int k n)
  | bool (b : Bool) : VX φ (.bool b) (.bool b)
  | str (s : ByteArray) : VX φ (.str s.data.toList) (.string s)
  | nilp : VX φ .nilp (.pointer none)
  | ptr {g o : Nat} {p : Nat × Nat} (h : φ g = some p) : VX φ (.ptr g o) (.pointer (some ⟨p.1, o, none⟩))
  | nils : VX φ .nils (.slice none 0 0)
  | sl {g o len cap : Nat} {p : Nat × Nat} (h : φ g = some p) (hc : len ≤ cap) : VX φ (.sl g o len cap) (.slice (some ⟨p.1, o, none⟩) len cap)
  | so {g a s len : Nat} {p : Nat × Nat} (h : φ g = some p) (hc : a + len ≤ p.2) : VX φ (.so g a s len) (.slice (some ⟨p.1, a * s, none⟩) len (p.2 - a))
  | fn {f : FuncId} {cs : List XV} {arr : Array Value} (hn : arr.size = cs.length) (h : ∀ (j : Nat) (x : XV) (c : Value), cs[j]? = some x → arr[j]? = some c → VX φ x c) : VX φ (.fn f cs) (.func (.func f) #[] arr)
  | nilf : VX φ .nilf .nilFunc
  | ifc {t : TypeId} {x : XV} {v : Value} (h : VX φ x v) : VX φ (.ifc t x) (.iface t v)
  | nili : VX φ .nili .nilIface
  | agg {cs : List XV} {arr : Array Value} (hs : ∀ x ∈ cs, x.sc = true) (hn : arr.size = cs.length) (h : ∀ (j : Nat) (x : XV) (c : Value), cs[j]? = some x → arr[j]? = some c → VX φ x c) : VX φ (.agg cs) (.agg arr)
  | tup {cs : List XV} {arr : Array Value} (hn : arr.size = cs.length) (h : ∀ (j : Nat) (x : XV) (c : Value), cs[j]? = some x → arr[j]? = some c → VX φ x c) : VX φ (.tup cs) (.tuple arr)

theorem VX.mono {φ φ' : Phi} (hl : φ.le φ') {x : XV} {v : Value} (h : VX φ x v) : VX φ' x v := by
  induction h with
  | int k n => exact .int k n
  | bool b => exact .bool b
  | str s => exact .str s
  | nilp => exact .nilp
  | ptr h => exact .ptr (hl _ _ h)
  | nils => exact .nils
  | sl h hc => exact .sl (hl _ _ h) hc
  | so h hc => exact .so (hl _ _ h) hc
  | fn hn _ ih => exact .fn hn ih
  | nilf => exact .nilf
  | ifc _ ih => exact .ifc ih
  | nili => exact .nili
  | agg hs hn _ ih => exact .agg hs hn ih
  | tup hn _ ih => exact .tup hn ih

/-- a list of values -/
def LX (φ : Phi) (xs : List XV) (arr : Array Value) : Prop := arr.size = xs.length ∧ ∀ (j : Nat) (x : XV) (c : Value), xs[j]? = some x → arr[j]? = some c → VX φ x c
theorem LX.get {φ : Phi} {xs : List XV} {arr : Array Value} (h : LX φ xs arr) {j : Nat} {x : XV} (hx : xs[j]? = some x) : ∃ c, arr[j]? = some c ∧ VX φ x c := by
  have hj : j < arr.size := by rw [h.1]; exact getElem?_lt hx
  exact ⟨arr[j], Array.getElem?_eq_getElem hj, h.2 j x _ hx (Array.getElem?_eq_getElem hj)⟩

theorem VX.one {φ : Phi} {x : XV} {v : Value} (h : VX φ x v) (hs : x.sc = true) : v.oneCell' = true := by cases h <;> first | rfl | cases hs
theorem VX.cellsOne {φ : Phi} {x : XV} {v : Value} (h : VX φ x v) (hs : x.sc = true) : v.cells = #[v] := by cases h <;> first | rfl | cases hs
theorem XV.cellsOne {x : XV} (hs : x.sc = true) : x.cells = [x] := by cases x <;> first | rfl | cases hs

/-- the cells of a value that lies in memory -/
theorem VX.cells {φ : Phi} {x : XV} {v : Value} (h : VX φ x v) (hs : (x.cells.all XV.sc) = true) : LX φ x.cells v.cells ∧ ∀ u ∈ v.cells.toList, u.oneCell' = true := by
  cases h
  case agg cs arr hs' hn h =>
    refine ⟨⟨hn, h⟩, fun u hu => ?_⟩
    obtain ⟨j, hj⟩ := List.getElem?_of_mem hu
    rw [Array.getElem?_toList] at hj
    have hlt : j < cs.length := by rw [← hn]; exact (Array.getElem?_eq_some_iff.1 hj).1
    exact (h j _ u (List.getElem?_eq_getElem hlt) hj).one (hs' _ (List.getElem_mem hlt))
  case tup cs arr hn h => simp [XV.cells, XV.sc] at hs
  all_goals
    refine ⟨⟨rfl, fun j x c hx hc => ?_⟩, fun u hu => ?_⟩
    · cases j with
      | zero =>
        simp [XV.cells] at hx; simp [Value.cells] at hc; subst hx hc
        constructor <;> assumption
      | succ j => simp [XV.cells] at hx
    · simp [Value.cells] at hu; subst hu; rfl

/-! ### blocks -/
structure Blk where
  T : TypeId
  ex : Bool
  mate : Option Nat
  cells : List XV
structure Mem where
  n : Nat
  t : Tr Blk

/-- how the abstract memory lies in the world -/
structure MR (P : Program) (φ : Phi) (w0 : World) (M : Mem) (w : World) : Prop where
  live : ∀ g b, M.t.get g = some b → ∃ p cur, φ g = some p ∧ w0.heap.size ≤ p.1 ∧ w.heap[p.1]? = some (.cells cur b.T (0, 0)) ∧ b.cells.length ≤ cur.size ∧ (∀ x ∈ b.cells, x.sc = true) ∧
    (∀ (j : Nat) (x : XV) (c : Value), b.cells[j]? = some x → cur[j]? = some c → VX φ x c) ∧ (b.ex = true → cur.size = b.cells.length) ∧ (b.ex = false → cur.size = p.2 * P.cellsOf b.T ∧ p.2 ≤ maxLen)
  alias : ∀ g h b b' p q, M.t.get g = some b → M.t.get h = some b' → φ g = some p → φ h = some q → p.1 = q.1 → g ≠ h → b.mate = some h
  dom : ∀ g, M.n ≤ g → φ g = none
  lim : M.n < 16777216
  mlim : ∀ g b h, M.t.get g = some b → b.mate = some h → h < M.n
  fr : Fr w0 [] w

/-- the frame's slots -/
def SR (φ : Phi) (S : Tr XV) (tmps : Array Value) : Prop := ∀ i x, S.get i = some x → ∃ v, tmps[i]? = some v ∧ VX φ x v
theorem SR.mono {φ φ' : Phi} (hl : φ.le φ') {S : Tr XV} {tmps : Array Value} (h : SR φ S tmps) : SR φ' S tmps := fun i x hx => let ⟨v, a, b⟩ := h i x hx; ⟨v, a, b.mono hl⟩
end Go.Proofs.YtcmaledchnhccaaGreatDoor

/-! How the memory of the executor follows the world: new blocks, writes, appends. No condition. -/
namespace Go.Proofs.YtcmaledchnhccaaGreatDoor
open Go Go.RowKit

def Mem.put (M : Mem) (g : Nat) (b : Option Blk) : Mem := ⟨M.n, M.t.set 24 g b⟩
def Mem.add (M : Mem) (b : Blk) : Option Mem := if M.n + 1 < 16777216 then some ⟨M.n + 1, M.t.set 24 M.n (some b)⟩ else none
def Mem.unmate (M : Mem) (b : Blk) : Mem := match b.mate with
  | some h => M.put h none
  | none => M
def Phi.ext (φ : Phi) (n : Nat) (p : Nat × Nat) : Phi := fun i => if i = n then some p else φ i
theorem Phi.ext_self (φ : Phi) (n : Nat) (p : Nat × Nat) : φ.ext n p n = some p := by simp [Phi.ext]
theorem Phi.ext_other {φ : Phi} {n i : Nat} (p : Nat × Nat) (h : i ≠ n) : φ.ext n p i = φ i := by simp [Phi.ext, h]

theorem Mem.get_put {M : Mem} {g : Nat} (hg : g + 1 < 16777216) (b : Option Blk) (i : Nat) : (M.put g b).t.get i = if i = g then b else M.t.get i := Tr.get_set 24 M.t g b i hg

section
variable {P : Program} {φ : Phi} {w0 w w' : World} {M M' : Mem}

theorem MR.dom_of (R : MR P φ w0 M w) {g : Nat} {p : Nat × Nat} (h : φ g = some p) : g < M.n := by
  rcases Nat.lt_or_ge g M.n with h' | h'
  · exact h'
  · rw [R.dom g h'] at h; cases h
theorem MR.le_ext (R : MR P φ w0 M w) (p : Nat × Nat) : φ.le (φ.ext M.n p) := fun g q h => by
  have := R.dom_of h
  rw [Phi.ext_other p (by omega)]; exact h
theorem MR.alive (R : MR P φ w0 M w) {g : Nat} {b : Blk} (h : M.t.get g = some b) : g < M.n := let ⟨_, _, hp, _⟩ := R.live g b h; R.dom_of hp
theorem MR.unmate_get (R : MR P φ w0 M w) {g : Nat} {b : Blk} (h : M.t.get g = some b) (i : Nat) : (M.unmate b).t.get i = if b.mate = some i then none else M.t.get i := by
  unfold Mem.unmate
  cases hm : b.mate with
  | none => simp
  | some m =>
    have hl := R.mlim g b m h hm
    have := R.lim
    simp only
    rw [Mem.get_put (by omega)]
    by_cases hi : i = m
    · simp [hi]
    · rw [if_neg hi, if_neg (by simpa using fun h => hi h.symm)]
theorem Mem.unmate_n (M : Mem) (b : Blk) : (M.unmate b).n = M.n := by unfold Mem.unmate; cases b.mate <;> rfl

/-- nothing but the count of draws has turned -/
theorem MR.world (R : MR P φ w0 M w) (hh : w'.heap = w.heap) (ho : w'.os = w.os) (ht : w'.tape = w.tape) (hu : w'.output = w.output) : MR P φ w0 M w' where
  live := by rw [hh]; exact R.live
  alias := R.alias
  dom := R.dom
  lim := R.lim
  mlim := R.mlim
  fr := ⟨ho.trans R.fr.os, ht.trans R.fr.tape, hu.trans R.fr.output, by rw [hh]; exact R.fr.size, fun g hg hn => by rw [hh]; exact R.fr.blk g hg hn⟩

/-- what the world's block of a new number must be -/
structure Lies (P : Program) (φ : Phi) (b : Blk) (k : Nat) (cur : Array Value) : Prop where
  len : b.cells.length ≤ cur.size
  sc : ∀ x ∈ b.cells, x.sc = true
  val : ∀ (j : Nat) (x : XV) (c : Value), b.cells[j]? = some x → cur[j]? = some c → VX φ x c
  exact : b.ex = true → cur.size = b.cells.length
  room : b.ex = false → cur.size = k * P.cellsOf b.T ∧ k ≤ maxLen
theorem Lies.mono {φ φ' : Phi} (hl : φ.le φ') {b : Blk} {k : Nat} {cur : Array Value} (h : Lies P φ b k cur) : Lies P φ' b k cur :=
  ⟨h.len, h.sc, fun j x c hx hc => (h.val j x c hx hc).mono hl, h.exact, h.room⟩
theorem MR.lies (R : MR P φ w0 M w) {g : Nat} {b : Blk} (h : M.t.get g = some b) : ∃ p cur, φ g = some p ∧ w0.heap.size ≤ p.1 ∧ w.heap[p.1]? = some (.cells cur b.T (0, 0)) ∧ Lies P φ b p.2 cur := by
  obtain ⟨p, cur, a, c, d, e, f, g, i, j⟩ := R.live g b h
  exact ⟨p, cur, a, c, d, e, f, g, i, j⟩

/-- A new block. -/
theorem MR.add (R : MR P φ w0 M w) {b : Blk} {k : Nat} {cur : Array Value} (hm : b.mate = none) (hl : Lies P φ b k cur) (ha : M.add b = some M')
    (hh : w'.heap = w.heap.push (.cells cur b.T (0, 0))) (ho : w'.os = w.os) (ht : w'.tape = w.tape) (hu : w'.output = w.output) : MR P (φ.ext M.n (w.heap.size, k)) w0 M' w' := by
  unfold Mem.add at ha
  split at ha
  · rename_i hlim
    cases ha
    have hget : ∀ i, (M.t.set 24 M.n (some b)).get i = if i = M.n then some b else M.t.get i := fun i => Tr.get_set 24 M.t M.n (some b) i hlim
    have hle := R.le_ext (w.heap.size, k)
    have hold : ∀ i, i < w.heap.size → w'.heap[i]? = w.heap[i]? := fun i hi => by rw [hh, Array.getElem?_push, if_neg (Nat.ne_of_lt hi)]
    refine { live := ?_, alias := ?_, dom := ?_, lim := hlim, mlim := ?_, fr := ?_ }
    · intro g b' hg
      rw [hget] at hg
      split at hg
      · rename_i hgn
        cases hg
        subst hgn
        have h2 := hl.mono hle
        exact ⟨_, cur, Phi.ext_self _ _ _, R.fr.size, by rw [hh]; simp, h2.len, h2.sc, h2.val, h2.exact, h2.room⟩
      · rename_i hgn
        obtain ⟨p, cur', hp, h1, h2, h3⟩ := R.lies hg
        have h4 := h3.mono hle
        have hlt : p.1 < w.heap.size := (Array.getElem?_eq_some_iff.1 h2).1
        exact ⟨p, cur', hle _ _ hp, h1, (hold _ hlt).trans h2, h4.len, h4.sc, h4.val, h4.exact, h4.room⟩
    · intro g h b1 b2 p q hg hh' hp hq hpq hne
      rw [hget] at hg hh'
      have hsz : ∀ g b p, M.t.get g = some b → φ g = some p → p.1 < w.heap.size := by
        intro g b p hg hp
        obtain ⟨p', cur', hp', _, h2, _⟩ := R.lies hg
        rw [hp] at hp'; cases hp'
        exact (Array.getElem?_eq_some_iff.1 h2).1
      split at hg <;> split at hh'
      · omega
      · rename_i e1 e2
        cases hg
        rw [e1, Phi.ext_self] at hp
        rw [Phi.ext_other _ e2] at hq
        cases hp
        have := hsz h b2 q hh' hq
        simp only at hpq; omega
      · rename_i e1 e2
        cases hh'
        rw [e2, Phi.ext_self] at hq
        rw [Phi.ext_other _ e1] at hp
        cases hq
        have := hsz g b1 p hg hp
        simp only at hpq; omega
      · rename_i e1 e2
        rw [Phi.ext_other _ e1] at hp
        rw [Phi.ext_other _ e2] at hq
        exact R.alias g h b1 b2 p q hg hh' hp hq hpq hne
    · intro g hg
      simp only at hg
      rw [Phi.ext_other _ (by omega)]
      exact R.dom g (by omega)
    · intro g b' h hg hmt
      rw [hget] at hg
      simp only
      split at hg
      · cases hg; rw [hm] at hmt; cases hmt
      · have := R.mlim g b' h hg hmt; omega
    · refine ⟨ho.trans R.fr.os, ht.trans R.fr.tape, hu.trans R.fr.output, ?_, fun g hg hn => ?_⟩
      · rw [hh, Array.size_push]; have := R.fr.size; omega
      · rw [hold g (Nat.lt_of_lt_of_le hg R.fr.size)]; exact R.fr.blk g hg hn
  · cases ha

/-- A block is written. -/
theorem MR.write (R : MR P φ w0 M w) {g : Nat} {b b' : Blk} {p : Nat × Nat} {cur cur' : Array Value} (hg : M.t.get g = some b) (hp : φ g = some p) (hc : w.heap[p.1]? = some (.cells cur b.T (0, 0)))
    (hT : b'.T = b.T) (hm : b'.mate = none) (hl : Lies P φ b' p.2 cur') : MR P φ w0 ((M.unmate b).put g (some b')) (w.setRow p.1 cur') := by
  have hn := R.alive hg
  have hlim := R.lim
  obtain ⟨p0, cur0, hp0, hlo, _, _⟩ := R.lies hg
  rw [hp] at hp0; cases hp0
  have hget : ∀ i, ((M.unmate b).put g (some b')).t.get i = if i = g then some b' else if b.mate = some i then none else M.t.get i := by
    intro i
    rw [Mem.get_put (by omega), R.unmate_get hg]
  refine { live := ?_, alias := ?_, dom := ?_, lim := ?_, mlim := ?_, fr := ?_ }
  · intro i b1 hi
    rw [hget] at hi
    split at hi
    · rename_i hig
      cases hi; subst hig
      exact ⟨p, cur', hp, hlo, by rw [hT]; exact setRow_heap w p.1 cur cur' b.T (0, 0) hc, hl.len, hl.sc, hl.val, hl.exact, hl.room⟩
    · rename_i hig
      split at hi
      · cases hi
      · rename_i hmt
        obtain ⟨q, cur1, hq, h1, h2, h3⟩ := R.lies hi
        have hne : q.1 ≠ p.1 := fun hqp => hmt (R.alias g i b b1 p q hg hi hp hq hqp.symm (fun h => hig h.symm))
        exact ⟨q, cur1, hq, h1, (setRow_other w p.1 q.1 cur' hne).trans h2, h3.len, h3.sc, h3.val, h3.exact, h3.room⟩
  · intro i j b1 b2 q r hi hj hq hr hqr hne
    rw [hget] at hi hj
    split at hi <;> split at hj
    · omega
    · rename_i e1 e2
      split at hj
      · cases hj
      · rename_i hmt
        rw [e1, hp] at hq; cases hq
        exact absurd (R.alias g j b b2 p r hg hj hp hr hqr (fun h => e2 h.symm)) hmt
    · rename_i e1 e2
      split at hi
      · cases hi
      · rename_i hmt
        rw [e2, hp] at hr; cases hr
        exact absurd (R.alias g i b b1 p q hg hi hp hq hqr.symm (fun h => e1 h.symm)) hmt
    · split at hi <;> split at hj
      · cases hi
      · cases hi
      · cases hj
      · exact R.alias i j b1 b2 q r hi hj hq hr hqr hne
  · intro i hi
    exact R.dom i (by simpa [Mem.put, Mem.unmate_n] using hi)
  · show (M.unmate b).n < _
    rw [Mem.unmate_n]; exact R.lim
  · intro i b1 h hi hmt
    show h < (M.unmate b).n
    rw [Mem.unmate_n]
    rw [hget] at hi
    split at hi
    · cases hi; rw [hm] at hmt; cases hmt
    · split at hi
      · cases hi
      · exact R.mlim i b1 h hi hmt
  · have hother : ∀ i, i ≠ p.1 → (w.setRow p.1 cur').heap[i]? = w.heap[i]? := fun i hi => setRow_other w p.1 i cur' hi
    exact ⟨R.fr.os, R.fr.tape, R.fr.output, by show w0.heap.size ≤ (w.heap.modify _ _).size; rw [Array.size_modify]; exact R.fr.size, fun i hi hn => by rw [hother i (by omega)]; exact R.fr.blk i hi hn⟩
end
end Go.Proofs.YtcmaledchnhccaaGreatDoor

/-! How the memory of the executor follows an append to a row whose room is unknown. No condition. -/
namespace Go.Proofs.YtcmaledchnhccaaGreatDoor
open Go Go.RowKit

/-- a row g grows by 'nb': behind it a new number stands for the longer row; whoever was longer is forgotten -/
def Mem.grown (M : Mem) (g : Nat) (b : Blk) (L : Nat) (nb : List XV) : Option Mem :=
  match Nat.beq b.cells.length L with
  | true => ((M.unmate b).put g (some ⟨b.T, false, some M.n, b.cells⟩)).add ⟨b.T, false, some g, nb⟩
  | false => ((M.unmate b).put g none).add ⟨b.T, false, none, nb⟩

section
variable {P : Program} {φ : Phi} {w0 w w' : World} {M M' : Mem}

theorem Mem.grown_get (R : MR P φ w0 M w) {g : Nat} {b : Blk} {L : Nat} {nb : List XV} (hg : M.t.get g = some b) (h : M.grown g b L nb = some M') :
    M'.n = M.n + 1 ∧ M.n + 1 < 16777216 ∧ ∃ b0 b1 : Blk, (∀ i, M'.t.get i = if i = M.n then some b1 else if i = g then (if b.cells.length = L then some b0 else none) else if b.mate = some i then none else M.t.get i) ∧
      b0 = ⟨b.T, false, some M.n, b.cells⟩ ∧ b1.T = b.T ∧ b1.ex = false ∧ b1.cells = nb ∧ b1.mate = if b.cells.length = L then some g else none := by
  have hn := R.alive hg
  have hlim := R.lim
  unfold Mem.grown at h
  split at h
  · rename_i hb
    have hL := Nat.eq_of_beq_eq_true hb
    unfold Mem.add at h
    have hn2 : ((M.unmate b).put g (some ⟨b.T, false, some M.n, b.cells⟩)).n = M.n := Mem.unmate_n M b
    rw [hn2] at h
    split at h
    · rename_i hl
      cases h
      refine ⟨rfl, hl, ⟨b.T, false, some M.n, b.cells⟩, ⟨b.T, false, some g, nb⟩, fun i => ?_, rfl, rfl, rfl, rfl, by simp [hL]⟩
      show (Tr.set 24 _ _ _).get i = _
      rw [Tr.get_set 24 _ M.n _ i hl, Mem.get_put (by omega), R.unmate_get hg]
      simp [hL]
    · cases h
  · rename_i hb
    have hL : b.cells.length ≠ L := by
      intro h; rw [h, Nat.beq_refl] at hb; cases hb
    unfold Mem.add at h
    have hn2 : ((M.unmate b).put g none).n = M.n := Mem.unmate_n M b
    rw [hn2] at h
    split at h
    · rename_i hl
      cases h
      refine ⟨rfl, hl, ⟨b.T, false, some M.n, b.cells⟩, ⟨b.T, false, none, nb⟩, fun i => ?_, rfl, rfl, rfl, rfl, by simp [hL]⟩
      show (Tr.set 24 _ _ _).get i = _
      rw [Tr.get_set 24 _ M.n _ i hl, Mem.get_put (by omega), R.unmate_get hg]
      simp [hL]
    · cases h

/-- in place -/
theorem MR.grown_in (R : MR P φ w0 M w) {g : Nat} {b : Blk} {L : Nat} {nb : List XV} {p : Nat × Nat} {cur cur' : Array Value} (hg : M.t.get g = some b) (hx : b.ex = false) (h : M.grown g b L nb = some M') (hp : φ g = some p)
    (hc : w.heap[p.1]? = some (.cells cur b.T (0, 0))) (hl : Lies P φ ⟨b.T, false, none, nb⟩ p.2 cur') (hk : b.cells.length = L → Lies P φ b p.2 cur') :
    MR P (φ.ext M.n p) w0 M' (w.setRow p.1 cur') := by
  obtain ⟨hn', hlim', b0, b1, hget, hb0, hT, hex, hcl, hmt⟩ := Mem.grown_get R hg h
  have hn := R.alive hg
  have hle := R.le_ext p
  obtain ⟨p0, cur0, hp0, hlo, _, _⟩ := R.lies hg
  rw [hp] at hp0; cases hp0
  have hrow : ∀ T, T = b.T → (w.setRow p.1 cur').heap[p.1]? = some (.cells cur' T (0, 0)) := fun T hT => by rw [hT]; exact setRow_heap w p.1 cur cur' b.T (0, 0) hc
  -- who else is there is not the same block
  have hsep : ∀ i b' q, i ≠ M.n → i ≠ g → b.mate ≠ some i → M.t.get i = some b' → φ i = some q → q.1 ≠ p.1 := fun i b' q _ h2 h3 hi hq hqp => h3 (R.alias g i b b' p q hg hi hp hq hqp.symm (fun h => h2 h.symm))
  have hother : ∀ i, i ≠ p.1 → (w.setRow p.1 cur').heap[i]? = w.heap[i]? := fun i hi => setRow_other w p.1 i cur' hi
  refine { live := ?_, alias := ?_, dom := ?_, lim := by omega, mlim := ?_, fr := ?_ }
  · intro i b' hi
    rw [hget] at hi
    split at hi
    · rename_i e
      cases hi; subst e
      have h2 := hl.mono hle
      refine ⟨p, cur', Phi.ext_self _ _ _, hlo, hrow _ hT, ?_, ?_, ?_, (fun he => by rw [hex] at he; cases he), fun _ => ?_⟩
      · rw [hcl]; exact h2.len
      · rw [hcl]; exact h2.sc
      · rw [hcl]; exact h2.val
      · rw [hT]; exact h2.room rfl
    · rename_i e
      split at hi
      · rename_i e2
        split at hi
        · rename_i e3
          cases hi; subst e2
          have h2 := (hk e3).mono hle
          rw [hb0]
          exact ⟨p, cur', hle _ _ hp, hlo, hrow _ rfl, h2.len, h2.sc, h2.val, (fun he => by cases he), fun _ => h2.room hx⟩
        · cases hi
      · rename_i e2
        split at hi
        · cases hi
        · rename_i e3
          obtain ⟨q, cur1, hq, h1, h2, h3⟩ := R.lies hi
          have h4 := h3.mono hle
          exact ⟨q, cur1, hle _ _ hq, h1, (hother q.1 (hsep i b' q e e2 e3 hi hq)).trans h2, h4.len, h4.sc, h4.val, h4.exact, h4.room⟩
  · intro i j b2 b3 q r hi hj hq hr hqr hne
    rw [hget] at hi hj
    have back : ∀ i q, i ≠ M.n → φ.ext M.n p i = some q → φ i = some q := fun i q h1 h2 => by rwa [Phi.ext_other p h1] at h2
    split at hi
    · rename_i e
      cases hi; subst e
      rw [Phi.ext_self] at hq; cases hq
      split at hj
      · omega
      · rename_i f
        split at hj
        · rename_i f2
          split at hj
          · rename_i f3; rw [hmt, if_pos f3, f2]
          · cases hj
        · rename_i f2
          split at hj
          · cases hj
          · rename_i f3
            exact absurd hqr.symm (hsep j b3 r f f2 f3 hj (back j r f hr))
    · rename_i e
      split at hi
      · rename_i e2
        split at hi
        · rename_i e3
          cases hi; subst e2
          have hq' := back _ q e hq
          rw [hp] at hq'; cases hq'
          split at hj
          · rename_i f; rw [hb0, f]
          · rename_i f
            split at hj
            · omega
            · rename_i f2
              split at hj
              · cases hj
              · rename_i f3
                exact absurd hqr.symm (hsep j b3 r f f2 f3 hj (back j r f hr))
        · cases hi
      · rename_i e2
        split at hi
        · cases hi
        · rename_i e3
          have hs := hsep i b2 q e e2 e3 hi (back i q e hq)
          split at hj
          · rename_i f
            rw [f, Phi.ext_self] at hr; cases hr
            exact absurd hqr hs
          · rename_i f
            split at hj
            · rename_i f2
              have hr' := back j r f hr
              rw [f2, hp] at hr'; cases hr'
              exact absurd hqr hs
            · rename_i f2
              split at hj
              · cases hj
              · exact R.alias i j b2 b3 q r hi hj (back i q e hq) (back j r f hr) hqr hne
  · intro i hi
    rw [Phi.ext_other _ (by omega)]
    exact R.dom i (by omega)
  · intro i b' m hi hm
    rw [hget] at hi
    split at hi
    · cases hi
      rw [hmt] at hm
      split at hm
      · cases hm; omega
      · cases hm
    · split at hi
      · split at hi
        · cases hi; rw [hb0] at hm; cases hm; omega
        · cases hi
      · split at hi
        · cases hi
        · have := R.mlim i b' m hi hm; omega
  · exact ⟨R.fr.os, R.fr.tape, R.fr.output, by show w0.heap.size ≤ (w.heap.modify _ _).size; rw [Array.size_modify]; exact R.fr.size, fun i hi hn => by rw [hother i (by omega)]; exact R.fr.blk i hi hn⟩

/-- in a new block -/
theorem MR.grown_new (R : MR P φ w0 M w) {g : Nat} {b : Blk} {L k : Nat} {nb : List XV} {cur' : Array Value} (hg : M.t.get g = some b) (hx : b.ex = false) (h : M.grown g b L nb = some M')
    (hl : Lies P φ ⟨b.T, false, none, nb⟩ k cur') (hh : w'.heap = w.heap.push (.cells cur' b.T (0, 0))) (ho : w'.os = w.os) (ht : w'.tape = w.tape) (hu : w'.output = w.output) :
    MR P (φ.ext M.n (w.heap.size, k)) w0 M' w' := by
  obtain ⟨hn', hlim', b0, b1, hget, hb0, hT, hex, hcl, hmt⟩ := Mem.grown_get R hg h
  have hn := R.alive hg
  have hle := R.le_ext (w.heap.size, k)
  have hold : ∀ i, i < w.heap.size → w'.heap[i]? = w.heap[i]? := fun i hi => by rw [hh, Array.getElem?_push, if_neg (Nat.ne_of_lt hi)]
  have hlt : ∀ {i b' q}, M.t.get i = some b' → φ i = some q → q.1 < w.heap.size := by
    intro i b' q hi hq
    obtain ⟨q', _, hq', _, h2, _⟩ := R.lies hi
    rw [hq] at hq'; cases hq'
    exact (Array.getElem?_eq_some_iff.1 h2).1
  have back : ∀ i q, i ≠ M.n → φ.ext M.n (w.heap.size, k) i = some q → φ i = some q := fun i q h1 h2 => by rwa [Phi.ext_other _ h1] at h2
  -- each old one
  have hwas : ∀ i b', i ≠ M.n → (if i = M.n then some b1 else if i = g then (if b.cells.length = L then some b0 else none) else if b.mate = some i then none else M.t.get i) = some b' → ∃ b2, M.t.get i = some b2 ∧ (b' = b2 ∧ b.mate ≠ some i ∧ i ≠ g ∨ i = g ∧ b' = b0 ∧ b2 = b) := by
    intro i b' h1 hi
    rw [if_neg h1] at hi
    split at hi
    · rename_i e2
      split at hi
      · cases hi; exact ⟨b, by rw [e2]; exact hg, .inr ⟨e2, rfl, rfl⟩⟩
      · cases hi
    · rename_i e2
      split at hi
      · cases hi
      · rename_i e3; exact ⟨b', hi, .inl ⟨rfl, e3, e2⟩⟩
  refine { live := ?_, alias := ?_, dom := ?_, lim := by omega, mlim := ?_, fr := ?_ }
  · intro i b' hi
    rw [hget] at hi
    by_cases e : i = M.n
    · rw [if_pos e] at hi
      cases hi; subst e
      have h2 := hl.mono hle
      refine ⟨_, cur', Phi.ext_self _ _ _, R.fr.size, by rw [hh, hT]; simp, ?_, ?_, ?_, (fun he => by rw [hex] at he; cases he), fun _ => ?_⟩
      · rw [hcl]; exact h2.len
      · rw [hcl]; exact h2.sc
      · rw [hcl]; exact h2.val
      · rw [hT]; exact h2.room rfl
    · obtain ⟨b2, hb2, hcase⟩ := hwas i b' e hi
      obtain ⟨q, cur1, hq, h1, h2, h3⟩ := R.lies hb2
      have h4 := h3.mono hle
      have hq1 := hlt hb2 hq
      rcases hcase with ⟨rfl, _, _⟩ | ⟨_, rfl, rfl⟩
      · exact ⟨q, cur1, hle _ _ hq, h1, (hold _ hq1).trans h2, h4.len, h4.sc, h4.val, h4.exact, h4.room⟩
      · rw [hb0]
        exact ⟨q, cur1, hle _ _ hq, h1, (hold _ hq1).trans h2, h4.len, h4.sc, h4.val, fun he => (by cases he), fun _ => h4.room hx⟩
  · intro i j b2 b3 q r hi hj hq hr hqr hne
    rw [hget] at hi hj
    by_cases e : i = M.n
    · rw [e, Phi.ext_self] at hq; cases hq
      obtain ⟨b4, hb4, _⟩ := hwas j b3 (by omega) hj
      have := hlt hb4 (back j r (by omega) hr)
      simp only at hqr; omega
    · obtain ⟨b4, hb4, hc4⟩ := hwas i b2 e hi
      have hq' := back i q e hq
      by_cases f : j = M.n
      · rw [f, Phi.ext_self] at hr; cases hr
        have := hlt hb4 hq'
        simp only at hqr; omega
      · obtain ⟨b5, hb5, hc5⟩ := hwas j b3 f hj
        have hr' := back j r f hr
        have hal := R.alias i j b4 b5 q r hb4 hb5 hq' hr' hqr hne
        have hal2 := R.alias j i b5 b4 r q hb5 hb4 hr' hq' hqr.symm (fun h => hne h.symm)
        rcases hc4 with ⟨rfl, h1, h2⟩ | ⟨h1, rfl, rfl⟩
        · exact hal
        · rcases hc5 with ⟨rfl, h3, h4⟩ | ⟨h3, rfl, rfl⟩
          · exact absurd hal h3
          · omega
  · intro i hi
    rw [Phi.ext_other _ (by omega)]
    exact R.dom i (by omega)
  · intro i b' m hi hm
    rw [hget] at hi
    split at hi
    · cases hi
      rw [hmt] at hm
      split at hm
      · cases hm; omega
      · cases hm
    · split at hi
      · split at hi
        · cases hi; rw [hb0] at hm; cases hm; omega
        · cases hi
      · split at hi
        · cases hi
        · have := R.mlim i b' m hi hm; omega
  · refine ⟨ho.trans R.fr.os, ht.trans R.fr.tape, hu.trans R.fr.output, ?_, fun i hi hn => ?_⟩
    · rw [hh, Array.size_push]; have := R.fr.size; omega
    · rw [hold i (Nat.lt_of_lt_of_le hi R.fr.size)]; exact R.fr.blk i hi hn
end
end Go.Proofs.YtcmaledchnhccaaGreatDoor

/-! An executor for closed runs: what each operation does to the abstract memory. Definitions. No condition. -/
namespace Go.Proofs.YtcmaledchnhccaaGreatDoor
open Go Go.RowKit

/-- what is to be known of a type -/
structure TY where
  d : TypeDesc
  c : Nat
  b : Nat
  z : Option (List XV)
  /-- a block of it may be seen through a bare pointer, and back -/
  u : Bool
  /-- how two are compared, part by part -/
  eq : Option (List Nat)
abbrev TYS := Nat → Option TY

def xConst : Value → Option XV
  | .int k n => some (.int k n)
  | .bool b => some (.bool b)
  | .string s => some (.str s.data.toList)
  | .pointer none => some .nilp
  | .slice none 0 0 => some .nils
  | .nilFunc => some .nilf
  | .nilIface => some .nili
  | _ => none
def ev (S : Tr XV) : Operand → Option XV
  | .tmp t => S.get t
  | .const v => xConst v
  | .func f => some (.fn f [])
  | .global _ => none
def evs (S : Tr XV) : List Operand → Option (List XV)
  | [] => some []
  | x :: xs => match ev S x, evs S xs with
    | some y, some ys => some (y :: ys)
    | _, _ => none

def xInt (op : BinOp) (k : IntKind) (a b : Int) : Option XV :=
  match op with
  | .add => some (.int k (k.wrap (a + b)))
  | .sub => some (.int k (k.wrap (a - b)))
  | .mul => some (.int k (k.wrap (a * b)))
  | .quo => if b = 0 then none else some (.int k (k.wrap (a.tdiv b)))
  | .rem => if b = 0 then none else some (.int k (a.tmod b))
  | .and => some (.int k (k.wrap (BitVec.ofInt k.bits a &&& BitVec.ofInt k.bits b).toNat))
  | .or => some (.int k (k.wrap (BitVec.ofInt k.bits a ||| BitVec.ofInt k.bits b).toNat))
  | .xor => some (.int k (k.wrap (BitVec.ofInt k.bits a ^^^ BitVec.ofInt k.bits b).toNat))
  | .andNot => some (.int k (k.wrap (BitVec.ofInt k.bits a &&& ~~~BitVec.ofInt k.bits b).toNat))
  | .eql => some (.bool (decide (a = b)))
  | .neq => some (.bool (!decide (a = b)))
  | .lss => some (.bool (decide (a < b)))
  | .leq => some (.bool (decide (a ≤ b)))
  | .gtr => some (.bool (decide (b < a)))
  | .geq => some (.bool (decide (b ≤ a)))
  | _ => none
def xStr (op : BinOp) (a b : List UInt8) : Option XV :=
  match op with
  | .add => if a.length + b.length ≤ 9223372036854775807 then some (.str (a ++ b)) else none
  | .eql => some (.bool (decide (a = b)))
  | .neq => some (.bool (!decide (a = b)))
  | .lss => some (.bool (Op.bytesLess a b))
  | .leq => some (.bool (Op.bytesLess a b || decide (a = b)))
  | .gtr => some (.bool (!(Op.bytesLess a b || decide (a = b))))
  | .geq => some (.bool (!Op.bytesLess a b))
  | _ => none
/-- is it nil? of what can be -/
def xNil : XV → Option Bool
  | .nilp | .nils | .nilf | .nili => some true
  | .ptr .. | .sl .. | .so .. | .fn .. | .ifc .. => some false
  | _ => none
def toAV : XV → AV
  | .int k n => .int k n
  | .bool b => .bool b
  | .str s => .str s
  | .nilp => .nilp
  | _ => .junk
def XV.flat : XV → Bool
  | .int .. | .bool _ | .str _ | .nilp => true
  | _ => false
/-- 'cst': the right operand is a constant -/
def xEq (Y : TYS) (T : TypeId) (cst : Bool) (x y : XV) : Option Bool :=
  match Y T with
  | none => none
  | some t => match t.d, x, y with
    | .bool, .bool a, .bool b => some (a == b)
    | .pointer e, .ptr g o, .ptr g' o' => (match Y e with
      | some te => if g = g' ∧ te.c ≠ 0 then some (decide (o = o')) else none
      | none => none)
    | .pointer _, .ptr _ _, .nilp => some false
    | .pointer _, .nilp, .ptr _ _ => some false
    | .pointer _, .nilp, .nilp => some true
    | .slice _, .sl .., .nils => some false
    | .slice _, .so .., .nils => some false
    | .slice _, .nils, .nils => some true
    | .func .., .fn .., .nilf => some false
    | .func .., .nilf, .nilf => some true
    | .interface _, .ifc .., .nili => some false
    | .interface _, .nili, .nili => if cst then some true else none
    | .struct _, .agg xs, .agg ys => if xs.all XV.flat ∧ ys.all XV.flat then (match t.eq with
      | some ts => eqCs ts (xs.map toAV) (ys.map toAV)
      | none => none) else none
    | _, _, _ => none
def xBin (Y : TYS) (op : BinOp) (T : TypeId) (cst : Bool) (x y : XV) : Option XV :=
  match x, y with
  | .int k a, .int k' b => (match op with
    | .shl => if 0 ≤ b then some (.int k (k.wrap (a * 2 ^ (min b.toNat k.bits)))) else none
    | .shr => if 0 ≤ b then some (.int k (a.fdiv (2 ^ (min b.toNat k.bits)))) else none
    | op => if k = k' then xInt op k a b else none)
  | .str a, .str b => xStr op a b
  | x, y => (match op with
    | .eql => (match xEq Y T cst x y with
      | some b => some (.bool b)
      | none => none)
    | .neq => (match xEq Y T cst x y with
      | some b => some (.bool (!b))
      | none => none)
    | _ => none)
def isConst : Operand → Bool
  | .const _ => true
  | _ => false
def xUn (op : UnOp) (x : XV) : Option XV :=
  match op, x with
  | .not, .bool b => some (.bool (!b))
  | .neg, .int k n => some (.int k (k.wrap (0 - n)))
  | _, _ => none
def xConv (Y : TYS) (M : Mem) (src dst : TypeId) (x : XV) : Option XV :=
  match Y src, Y dst with
  | some s, some d => (match s.d, d.d, x with
    | _, .int k, .int _ n => some (.int k (k.wrap n))
    | .string, .string, .str s => some (.str s)
    | .pointer t, .unsafePointer, .ptr g o => (match M.t.get g, Y t with
      | some b, some yt => if o < b.cells.length ∧ yt.c ≠ 0 then some (.ptr g o) else none
      | _, _ => none)
    | .unsafePointer, .pointer t, .ptr g o => (match M.t.get g, Y t with
      | some b, some yt => if o = 0 ∧ b.ex = true ∧ b.T = t ∧ yt.u = true ∧ b.cells.length = yt.c ∧ yt.c ≠ 0 then some (.ptr g o) else none
      | _, _ => none)
    | _, _, _ => none)
  | _, _ => none

/-- put 'xs' over 'cs' from 'o' on -/
def xSplice (cs : List XV) (o : Nat) (xs : List XV) : List XV := cs.take o ++ xs ++ cs.drop (o + xs.length)
def allSc (xs : List XV) : Bool := xs.all XV.sc

def xLoad (Y : TYS) (M : Mem) (T : TypeId) (x : XV) : Option XV :=
  match x with
  | .ptr g o => (match M.t.get g, Y T with
    | some b, some y => if aggD y.d then (if o + y.c ≤ b.cells.length then some (.agg ((b.cells.drop o).take y.c)) else none) else b.cells[o]?
    | _, _ => none)
  | _ => none
/-- write cells -/
def xWrite (M : Mem) (g o : Nat) (xs : List XV) : Option Mem :=
  match M.t.get g with
  | some b => if o + xs.length ≤ b.cells.length ∧ allSc xs = true then some ((M.unmate b).put g (some ⟨b.T, b.ex, none, xSplice b.cells o xs⟩)) else none
  | none => none
def xStore (Y : TYS) (M : Mem) (T : TypeId) (x v : XV) : Option Mem :=
  match x, Y T with
  | .ptr g o, some y => if v.cells.length = y.c then xWrite M g o v.cells else none
  | _, _ => none
def xNew (M : Mem) (T : TypeId) (cells : List XV) : Option (XV × Mem) :=
  if allSc cells = true then (match M.add ⟨T, true, none, cells⟩ with
    | some M' => some (.ptr M.n 0, M')
    | none => none) else none
def xFill (place : Nat → Option (Nat × Nat)) : List XV → List (Nat × XV) → Option (List XV)
  | cells, [] => some cells
  | cells, (i, y) :: rest =>
    match place i with
    | none => none
    | some (off, size) => if allSc y.cells = true ∧ y.cells.length = size ∧ off + size ≤ cells.length then xFill place (xSplice cells off y.cells) rest else none
def xParts (S : Tr XV) : List (Nat × Operand) → Option (List (Nat × XV))
  | [] => some []
  | (i, x) :: xs => match ev S x, xParts S xs with
    | some y, some ys => some ((i, y) :: ys)
    | _, _ => none
def xPlaces (Y : TYS) (T : TypeId) : Option (Nat → Option (Nat × Nat)) :=
  match Y T with
  | some y => (match y.d with
    | .struct fields => some fun i => (match fields[i]? with
      | some f => (match Y f.type with
        | some yf => some (f.offset, yf.c)
        | none => none)
      | none => none)
    | .array _ e => (match Y e with
      | some ye => some fun i => some (i * ye.c, ye.c)
      | none => none)
    | _ => none)
  | none => none
/-- are all the fields' types told? -/
def xTold (Y : TYS) (T : TypeId) : Bool :=
  match Y T with
  | some y => (match y.d with
    | .struct fields => fields.toList.all fun f => (Y f.type).isSome
    | .array _ e => (Y e).isSome
    | _ => false)
  | none => false
def xBuild (Y : TYS) (S : Tr XV) (T : TypeId) (parts : List (Nat × Operand)) : Option XV :=
  match Y T, xPlaces Y T, xParts S parts with
  | some y, some pl, some ps => if xTold Y T then (match y.z with
    | some z => (match xFill pl z ps with
      | some cs => some (.agg cs)
      | none => none)
    | none => none) else none
  | _, _, _ => none
/-- zeros, again and again -/
def reps (z : List XV) : Nat → List XV
  | 0 => []
  | n + 1 => z ++ reps z n
def xBuildSlice (Y : TYS) (S : Tr XV) (M : Mem) (T : TypeId) (len : Nat) (parts : List (Nat × Operand)) : Option (XV × Mem) :=
  match Y T with
  | some y => (match y.d with
    | .slice e => (match Y e, xParts S parts with
      | some ye, some ps => (match ye.z with
        | some z => if len * ye.c ≤ 16777216 ∧ z.length = ye.c ∧ ye.c ≠ 0 then (match xFill (fun i => some (i * ye.c, ye.c)) (reps z len) ps with
          | some cs => (match xNew M e cs with
            | some (_, M') => some (.sl M.n 0 len len, M')
            | none => none)
          | none => none) else none
        | none => none)
      | _, _ => none)
    | _ => none)
  | none => none
def xMake (Y : TYS) (M : Mem) (T : TypeId) (l c : XV) : Option (XV × Mem) :=
  match Y T, l, c with
  | some y, .int .i64 l, .int .i64 c => (match y.d with
    | .slice e => (match Y e with
      | some ye => (match ye.z with
        | some z => if 0 ≤ l ∧ l ≤ c ∧ c * ye.b ≤ 140737488355328 ∧ c ≤ 140737488355328 ∧ z.length = ye.c ∧ ye.c ≠ 0 then (match xNew M e (reps z c.toNat) with
          | some (_, M') => some (.sl M.n 0 l.toNat c.toNat, M')
          | none => none) else none
        | none => none)
      | none => none)
    | _ => none)
  | _, _, _ => none
def xFieldAddr (Y : TYS) (T : TypeId) (x : XV) (f : Nat) : Option XV :=
  match Y T, x with
  | some y, .ptr g o => (match y.d with
    | .struct fields => (match fields[f]? with
      | some fl => (match Y fl.type with
        | some yf => if yf.c = 0 then none else some (.ptr g (o + fl.offset))
        | none => none)
      | none => none)
    | _ => none)
  | _, _ => none
/-- a part of an aggregate -/
def xPart (Y : TYS) (T : TypeId) (cs : List XV) (o : Nat) : Option XV :=
  match Y T with
  | some y => if aggD y.d then (if o + y.c ≤ cs.length then some (.agg ((cs.drop o).take y.c)) else none) else cs[o]?
  | none => none
def xField (Y : TYS) (T : TypeId) (x : XV) (f : Nat) : Option XV :=
  match Y T, x with
  | some y, .agg cs => (match y.d with
    | .struct fields => (match fields[f]? with
      | some fl => xPart Y fl.type cs fl.offset
      | none => none)
    | _ => none)
  | _, _ => none
def xIndexAddr (Y : TYS) (T : TypeId) (x i : XV) : Option XV :=
  match Y T, i with
  | some y, .int _ i => (match y.d with
    | .slice e => (match Y e with
      | some ye => if ye.c = 0 ∨ i < 0 then none else (match x with
        | .sl g o len _ => if i < len then some (.ptr g (o + i.toNat * ye.c)) else none
        | .so g a s len => if s = ye.c ∧ i < len then some (.ptr g (a * s + i.toNat * ye.c)) else none
        | _ => none)
      | none => none)
    | .array len e => (match Y e with
      | some ye => (match x with
        | .ptr g o => if ye.c ≠ 0 ∧ 0 ≤ i ∧ i < len then some (.ptr g (o + i.toNat * ye.c)) else none
        | _ => none)
      | none => none)
    | _ => none)
  | _, _ => none
def xIndex (Y : TYS) (T : TypeId) (x i : XV) : Option XV :=
  match Y T, x, i with
  | some y, .str l, .int _ i => (match y.d with
    | .string => if 0 ≤ i then (match l[i.toNat]? with
      | some b => some (.int .u8 b.toNat)
      | none => none) else none
    | _ => none)
  | some y, .agg cs, .int _ i => (match y.d with
    | .array len e => (match Y e with
      | some ye => if 0 ≤ i ∧ i < len then xPart Y e cs (i.toNat * ye.c) else none
      | none => none)
    | _ => none)
  | _, _, _ => none
def xExtract (x : XV) (i : Nat) : Option XV :=
  match x with
  | .tup vs => vs[i]?
  | _ => none
def xBnd (S : Tr XV) (x : Option Operand) (dflt most : Nat) : Option Nat :=
  match x with
  | none => some dflt
  | some x => match ev S x with
    | some (.int _ n) => if 0 ≤ n ∧ n ≤ most then some n.toNat else none
    | _ => none
def xSlice (Y : TYS) (S : Tr XV) (T : TypeId) (x : XV) (lo hi mx : Option Operand) : Option XV :=
  match Y T with
  | none => none
  | some y => match y.d, x with
    | .string, .str l => (match mx, xBnd S hi l.length l.length with
      | none, some h => (match xBnd S lo 0 h with
        | some a => some (.str ((l.drop a).take (h - a)))
        | none => none)
      | _, _ => none)
    | .slice e, .sl g o len cap => (match Y e, xBnd S mx cap cap with
      | some ye, some m => (match mx, hi with
        | some _, none => none
        | _, _ => match xBnd S hi len m with
          | some h => (match xBnd S lo 0 h with
            | some a => if ye.c = 0 then none else some (.sl g (if m = a then o else o + a * ye.c) (h - a) (m - a))
            | none => none)
          | none => none)
      | _, _ => none)
    | .slice e, .so g a0 s len => (match Y e with
      | some ye => if s = ye.c ∧ s ≠ 0 then (match mx with
        | none => (match xBnd S hi len len with
          | some h => (match xBnd S lo 0 h with
            | some a => if a = 0 then some (.so g a0 s h) else if a < h then some (.so g (a0 + a) s (h - a)) else none
            | none => none)
          | none => none)
        | some mo => (match xBnd S (some mo) 0 len, hi with
          | some m, some ho => (match xBnd S (some ho) 0 m with
            | some h => (match xBnd S lo 0 h with
              | some a => some (.sl g (if m = a then a0 * s else (a0 + a) * s) (h - a) (m - a))
              | none => none)
            | none => none)
          | _, _ => none)) else none
      | none => none)
    | .slice e, .nils => (match Y e, xBnd S mx 0 0, xBnd S hi 0 0, xBnd S lo 0 0 with
      | some _, some _, some _, some _ => (match mx, hi with
        | some _, none => none
        | _, _ => some .nils)
      | _, _, _, _ => none)
    | _, _ => none
def xLen (Y : TYS) (T : TypeId) (x : XV) : Option XV :=
  match Y T with
  | none => none
  | some y => match y.d, x with
    | .string, .str l => some (.int .i64 l.length)
    | .slice _, .nils => some (.int .i64 0)
    | .slice _, .sl _ _ len _ => some (.int .i64 len)
    | .slice _, .so _ _ _ len => some (.int .i64 len)
    | _, _ => none
def xCap (Y : TYS) (T : TypeId) (x : XV) : Option XV :=
  match Y T with
  | none => none
  | some y => match y.d, x with
    | .slice _, .nils => some (.int .i64 0)
    | .slice _, .sl _ _ _ cap => some (.int .i64 cap)
    | _, _ => none
/-- bytes, as cells -/
def xBytes (l : List UInt8) : List XV := l.map fun b => .int .u8 b.toNat
def unBytes : List XV → Option (List UInt8)
  | [] => some []
  | .int .u8 n :: xs => if 0 ≤ n ∧ n < 256 then (match unBytes xs with
    | some l => some (UInt8.ofNat n.toNat :: l)
    | none => none) else none
  | _ => none
/-- the cells of a row -/
def xRow (M : Mem) (s : Nat) (x : XV) : Option (Nat × List XV) :=
  match x with
  | .nils => some (0, [])
  | .sl g o len _ => (match M.t.get g with
    | some b => if o + len * s ≤ b.cells.length then some (len, (b.cells.drop o).take (len * s)) else none
    | none => none)
  | .so g a s' len => (match M.t.get g with
    | some b => if s' = s ∧ a * s + len * s ≤ b.cells.length then some (len, (b.cells.drop (a * s)).take (len * s)) else none
    | none => none)
  | .str l => if s = 1 then some (l.length, xBytes l) else none
  | _ => none
def xSliceData (x : XV) : Option XV :=
  match x with
  | .nils => some .nilp
  | .sl g o _ cap => if cap = 0 then none else some (.ptr g o)
  | .so g a s len => if len = 0 then none else some (.ptr g (a * s))
  | _ => none
def isPtr : XV → Bool
  | .ptr .. | .nilp => true
  | _ => false
/-- bytes become a text: the block is not written any more -/
def xToText (Y : TYS) (M : Mem) (T : TypeId) (x n : XV) : Option (XV × Mem) :=
  match Y T, n with
  | some y, .int .i64 n => if n = 0 then some (.str [], M) else (match y.d, x with
    | .pointer e, .ptr g o => (match M.t.get g, Y e with
      | some b, some ye => if 0 ≤ n ∧ n ≤ 9223372036854775807 ∧ o = 0 ∧ ye.c = 1 ∧ b.T = e ∧ n.toNat ≤ b.cells.length then (match unBytes (b.cells.take n.toNat) with
        | some l => some (.str l, (M.unmate b).put g none)
        | none => none) else none
      | _, _ => none)
    | _, _ => none)
  | _, _ => none
/-- a row whose room is unknown -/
def xOpen (M : Mem) (T : TypeId) (s len : Nat) (cells : List XV) : Option (XV × Mem) :=
  match M.add ⟨T, false, none, cells⟩ with
  | some M' => some (.so M.n 0 s len, M')
  | none => none
def xAppend (Y : TYS) (M : Mem) (T : TypeId) (x y : XV) : Option (XV × Mem) :=
  match Y T with
  | none => none
  | some t => match t.d with
    | .slice e => (match Y e with
      | some ye => (match ye.z with
        | some z => if ye.c = 0 ∨ z.length ≠ ye.c then none else (match xRow M ye.c y with
          | some (n, news) => (match x with
            | .nils => if n = 0 then some (.nils, M) else if n * ye.b ≤ 140737488355328 ∧ n ≤ 140737488355328 then xOpen M e ye.c n news else none
            | .sl g o len cap => if len + n ≤ cap then (match xWrite M g (o + len * ye.c) news with
                | some M' => some (.sl g o (len + n) cap, M')
                | none => none)
              else if (len + n) * ye.b ≤ 140737488355328 ∧ len + n ≤ 140737488355328 then (match xRow M ye.c x with
                | some (_, olds) => xOpen M e ye.c (len + n) (olds ++ news)
                | none => none) else none
            | .so g a s len => if n = 0 then some (.so g a s len, M) else if a = 0 ∧ s = ye.c ∧ (len + n) * ye.b ≤ 140737488355328 ∧ len + n ≤ 140737488355328 then (match M.t.get g with
                | some b => if b.ex = false ∧ b.T = e ∧ len * s ≤ b.cells.length then (match M.grown g b (len * s) (b.cells.take (len * s) ++ news) with
                  | some M' => some (.so M.n 0 s (len + n), M')
                  | none => none) else none
                | none => none) else none
            | _ => none)
          | none => none)
        | none => none)
      | none => none)
    | _ => none
def xCopy (Y : TYS) (M : Mem) (T : TypeId) (x y : XV) : Option (XV × Mem) :=
  match Y T with
  | none => none
  | some t => match t.d with
    | .slice e => (match Y e with
      | some ye => if ye.c = 0 then none else (match xRow M ye.c y, xRow M ye.c x with
        | some (n, news), some (m, _) =>
          let k := min n m
          if k = 0 then (match x with
            | .nils => some (.int .i64 0, M)
            | .sl .. => some (.int .i64 0, M)
            | .so .. => some (.int .i64 0, M)
            | _ => none) else (match x with
            | .sl g o _ _ => (match xWrite M g o (news.take (k * ye.c)) with
              | some M' => some (.int .i64 k, M')
              | none => none)
            | .so g a _ _ => (match xWrite M g (a * ye.c) (news.take (k * ye.c)) with
              | some M' => some (.int .i64 k, M')
              | none => none)
            | _ => none)
        | _, _ => none)
      | none => none)
    | _ => none
def xMinMax (mx : Bool) (x y : XV) : Option XV :=
  match x, y with
  | .int k a, .int k' b => if k = k' then some (.int k (if mx then max a b else min a b)) else none
  | _, _ => none
/-- a value and the memory as it was -/
def same (M : Mem) (x : Option XV) : Option (Option XV × Mem) := match x with
  | some v => some (some v, M)
  | none => none
def both (x : Option (XV × Mem)) : Option (Option XV × Mem) := match x with
  | some (v, M) => some (some v, M)
  | none => none
def xop (Y : TYS) (S : Tr XV) (M : Mem) (o : Op) : Option (Option XV × Mem) :=
  match o with
  | .move x | .assign x => same M (ev S x)
  | .pick c x y => (match ev S c with
    | some (.bool b) => same M (ev S (if b then x else y))
    | _ => none)
  | .alloc T => (match Y T with
    | some y => (match y.z with
      | some z => both (xNew M T z)
      | none => none)
    | none => none)
  | .box T x => (match ev S x with
    | some v => both (xNew M T v.cells)
    | none => none)
  | .build T parts => same M (xBuild Y S T parts.toList)
  | .buildSlice T len parts => both (xBuildSlice Y S M T len parts.toList)
  | .load T x => (match ev S x with
    | some v => same M (xLoad Y M T v)
    | none => none)
  | .store T x y => (match ev S x, ev S y with
    | some v, some u => (match xStore Y M T v u with
      | some M' => some (none, M')
      | none => none)
    | _, _ => none)
  | .nilCheck x => (match ev S x with
    | some (.ptr g o) => some (some (.ptr g o), M)
    | some (.fn f cs) => some (some (.fn f cs), M)
    | _ => none)
  | .binOp op T x y _ => (match ev S x, ev S y with
    | some v, some u => same M (xBin Y op T (isConst y) v u)
    | _, _ => none)
  | .unOp op _ x => (match ev S x with
    | some v => same M (xUn op v)
    | none => none)
  | .convert s d x => (match ev S x with
    | some v => same M (xConv Y M s d v)
    | none => none)
  | .makeFunc (.func f) first captured => (match first.toList, evs S captured.toList with
    | [], some ys => some (some (.fn f ys), M)
    | _, _ => none)
  | .makeSlice T l c => (match ev S l, ev S c with
    | some l, some c => both (xMake Y M T l c)
    | _, _ => none)
  | .slice T x lo hi mx => (match ev S x with
    | some v => same M (xSlice Y S T v lo hi mx)
    | none => none)
  | .fieldAddr T x f => (match ev S x with
    | some v => same M (xFieldAddr Y T v f)
    | none => none)
  | .field T x f => (match ev S x with
    | some v => same M (xField Y T v f)
    | none => none)
  | .indexAddr T x i => (match ev S x, ev S i with
    | some v, some i => same M (xIndexAddr Y T v i)
    | _, _ => none)
  | .index T x i => (match ev S x, ev S i with
    | some v, some i => same M (xIndex Y T v i)
    | _, _ => none)
  | .extract x i => (match ev S x with
    | some v => same M (xExtract v i)
    | none => none)
  | .call c => (match c.callee with
    | .builtin b => (match b, c.argTypes.toList, c.args.toList with
      | .len, [T], [x] => (match ev S x with
        | some v => same M (xLen Y T v)
        | none => none)
      | .cap, [T], [x] => (match ev S x with
        | some v => same M (xCap Y T v)
        | none => none)
      | .append, [T, T'], [x, y] => (match ev S x, ev S y with
        | some v, some u => if T' = T then both (xAppend Y M T v u) else (match Y T' with
          | some t' => (match t'.d with
            | .string => both (xAppend Y M T v u)
            | _ => none)
          | none => none)
        | _, _ => none)
      | .unsafeSliceData, _, [x] => (match ev S x with
        | some v => same M (xSliceData v)
        | none => none)
      | .unsafeString, [T, _], [x, y] => (match ev S x, ev S y with
        | some v, some u => if isPtr v then both (xToText Y M T v u) else none
        | _, _ => none)
      | .copy, [T, _], [x, y] => (match ev S x, ev S y with
        | some v, some u => both (xCopy Y M T v u)
        | _, _ => none)
      | .max, _, [x, y] => (match ev S x, ev S y with
        | some v, some u => same M (xMinMax true v u)
        | _, _ => none)
      | .min, _, [x, y] => (match ev S x, ev S y with
        | some v, some u => same M (xMinMax false v u)
        | _, _ => none)
      | _, _, _ => none)
    | _ => none)
  | _ => none
end Go.Proofs.YtcmaledchnhccaaGreatDoor

/-! An executor for closed runs: regions, code, calls. Definitions. No condition. -/
namespace Go.Proofs.YtcmaledchnhccaaGreatDoor
open Go Go.RowKit

def beqX : XV → XV → Bool
  | .int k a, .int k' b => decide (k = k') && decide (a = b)
  | .bool a, .bool b => a == b
  | .str a, .str b => decide (a = b)
  | .nilp, .nilp => true
  | .ptr g o, .ptr g' o' => decide (g = g') && decide (o = o')
  | .nils, .nils => true
  | .sl g o l c, .sl g' o' l' c' => decide (g = g') && decide (o = o') && decide (l = l') && decide (c = c')
  | .so g a s l, .so g' a' s' l' => decide (g = g') && decide (a = a') && decide (s = s') && decide (l = l')
  | .nilf, .nilf => true
  | .nili, .nili => true
  | .agg xs, .agg ys => beqL xs ys
  | .tup xs, .tup ys => beqL xs ys
  | .fn f xs, .fn g ys => decide (f = g) && beqL xs ys
  | .ifc t x, .ifc u y => decide (t = u) && beqX x y
  | _, _ => false
where beqL : List XV → List XV → Bool
  | [], [] => true
  | x :: xs, y :: ys => beqX x y && beqL xs ys
  | _, _ => false
def memoGet : List (List XV × XV) → List XV → Option XV
  | [], _ => none
  | (as', r) :: rest, xs => match beqX.beqL as' xs with
    | true => some r
    | false => memoGet rest xs
/-- functions without a body -/
inductive XK where
  | indexByte | cmpString | noEscape | makeNoZero (e : TypeId)
  | memo (tab : List (List XV × XV))
inductive FN where
  | go (code : Code) (n : Nat) (rs : List ResultVar)
  | ext (k : XK)
def xExt (k : XK) (args : List XV) (M : Mem) : Option (XV × Mem) :=
  match k, args with
  | .indexByte, [.str s, .int .u8 c] => some (.int .i64 (Lib.indexByte s c.toNat.toUInt8), M)
  | .cmpString, [.str a, .str b] => some (.int .i64 (Lib.compareBytes a b), M)
  | .noEscape, [x] => some (x, M)
  | .memo tab, xs => (match memoGet tab xs with
    | some r => some (r, M)
    | none => none)
  | .makeNoZero e, [.int .i64 n] => if 0 ≤ n ∧ n ≤ 140737488355328 then xOpen M e 1 n.toNat [] else none
  | _, _ => none
abbrev FNS := Nat → Option FN
abbrev Caller := Nat → List XV → Mem → Option (XV × Mem)

def sput (n : Nat) (S : Tr XV) (d : Nat) (x : XV) : Option (Tr XV) := if d < n ∧ d + 1 < 1024 then some (S.set 10 d (some x)) else none
def dput (n : Nat) (S : Tr XV) (d : Option Nat) (x : XV) : Option (Tr XV) := match d with
  | some d => sput n S d x
  | none => some S
def argS : Nat → List XV → Tr XV → Tr XV
  | _, [], S => S
  | i, x :: xs, S => argS (i + 1) xs (S.set 10 i (some x))
def xWanted (ops : Array Oper) (S : Tr XV) (o : Oper) : Option Bool :=
  match o.guard with
  | none => some true
  | some (j, b) => match (ops[j]?).bind (·.dst) with
    | some t => (match S.get t with
      | some (.bool c) => some (c == b)
      | some (.tup []) => some false
      | _ => none)
    | none => none
/-- one operation -/
def xStep (Y : TYS) (call : Caller) (n : Nat) (o : Oper) (S : Tr XV) (M : Mem) : Option (Tr XV × Mem) :=
  match o.op with
  | .call c => (match c.callee with
    | .value fo => (match ev S fo, evs S c.args.toList with
      | some (.fn f caps), some xs => (match call f (xs ++ caps) M with
        | some (v, M') => (match dput n S o.dst v with
          | some S' => some (S', M')
          | none => none)
        | none => none)
      | _, _ => none)
    | _ => (match xop Y S M o.op with
      | some (some v, M') => (match dput n S o.dst v with
        | some S' => some (S', M')
        | none => none)
      | _ => none))
  | _ => (match xop Y S M o.op with
    | some (some v, M') => (match dput n S o.dst v with
      | some S' => some (S', M')
      | none => none)
    | some (none, M') => (match dput n S o.dst (.tup []) with
      | some S' => some (S', M')
      | none => none)
    | none => none)
def xOps (Y : TYS) (call : Caller) (n : Nat) (ops : Array Oper) : List Oper → Tr XV → Mem → Option (Tr XV × Mem)
  | [], S, M => some (S, M)
  | o :: os, S, M => match xWanted ops S o with
    | some true => (match xStep Y call n o S M with
      | some (S', M') => xOps Y call n ops os S' M'
      | none => none)
    | some false => (match dput n S o.dst (.tup []) with
      | some S' => xOps Y call n ops os S' M
      | none => none)
    | none => none
def xRes1 (Y : TYS) (S : Tr XV) (M : Mem) : ResultVar → Option XV
  | .tmp t => S.get t
  | .cell a T => match S.get a with
    | some v => xLoad Y M T v
    | none => none
def xResL (Y : TYS) (S : Tr XV) (M : Mem) : List ResultVar → Option (List XV)
  | [] => some []
  | x :: xs => match xRes1 Y S M x, xResL Y S M xs with
    | some y, some ys => some (y :: ys)
    | _, _ => none
def xRes (Y : TYS) (S : Tr XV) (M : Mem) (rs : List ResultVar) : Option XV :=
  match xResL Y S M rs with
  | some [x] => some x
  | some l => some (.tup l)
  | none => none

/-- what a call does, if its body's code does 'run' -/
def xCall (Y : TYS) (F : FNS) (run : Nat → Code → Tr XV → Mem → Option (Exit × Tr XV × Mem)) : Caller := fun f args M =>
  match F f with
  | some (.go code n rs) => if args.length < 1023 ∧ n < 1023 then (match run (max args.length n) code (argS 0 args .nil) M with
    | some (.normal, S, M') => (match xRes Y S M' rs with
      | some v => some (v, M')
      | none => none)
    | some (.ret, S, M') => (match xRes Y S M' rs with
      | some v => some (v, M')
      | none => none)
    | _ => none) else none
  | some (.ext k) => xExt k args M
  | none => none

/-! ### regions whose order is drawn -/
def bit (m j : Nat) : Bool := m.testBit j
def edgeMask (anc : List Nat) (i : Nat) : List Edge → Nat
  | [] => 0
  | e :: es => if Region.binds .any e then (2 ^ e.on ||| anc.getD e.on 0) ||| edgeMask anc i es else edgeMask anc i es
/-- who is ahead of whom: a mask for each operation -/
def ancGo : List Oper → List Nat → List Nat
  | [], ms => ms
  | o :: os, ms => ancGo os (ms ++ [edgeMask ms ms.length o.after.toList])
def masksOK (ops : List Oper) (anc : List Nat) : Bool :=
  (List.range ops.length).all fun i => match ops[i]? with
    | some o => (o.after.toList.all fun e => !Region.binds .any e || decide (e.on < i)) && anc.getD i 0 == edgeMask anc i o.after.toList
    | none => true
/-- operations that turn the memory -/
def effOp (o : Op) : Bool :=
  match o with
  | .alloc _ | .box .. | .buildSlice .. | .makeSlice .. | .store .. => true
  | .call c => (match c.callee with
    | .builtin .len | .builtin .cap | .builtin .max | .builtin .min | .builtin .unsafeSliceData => false
    | _ => true)
  | _ => false
/-- operations that look at the memory -/
def readOp (o : Op) : Bool :=
  match o with
  | .load .. | .convert .. => true
  | _ => false
def chainOK (anc : List Nat) : List Nat → Bool
  | e1 :: e2 :: es => bit (anc.getD e2 0) e1 && chainOK anc (e2 :: es)
  | _ => true
def writer (ops : List Oper) (t : Nat) : Option Nat := ops.findIdx? fun o => o.dst == some t
def looks (ops : Array Oper) (o : Oper) : List Nat := o.looksAt ops
/-- what is known of a region once and for all -/
structure Plan where
  anc : List Nat
  effs : List Nat
def planOK (ops : Array Oper) (p : Plan) : Bool :=
  masksOK ops.toList p.anc && chainOK p.anc p.effs && decide (ops.toList.filterMap (·.dst)).Nodup
def planOf (ops : Array Oper) : Plan := ⟨ancGo ops.toList [], (List.range ops.size).filter fun i => match ops[i]? with
  | some o => effOp o.op
  | none => false⟩
/-- what operation i sees in slot t: what an operation ahead of it has written, or what was there -/
def dSee (ops : Array Oper) (p : Plan) (i : Nat) (S0 : Tr XV) (vals : List XV) (t : Nat) : Option XV :=
  match writer ops.toList t with
  | some j => if bit (p.anc.getD i 0) j then vals[j]? else if i = j ∨ bit (p.anc.getD j 0) i = true then S0.get t else none
  | none => S0.get t
def dSlots (ops : Array Oper) (p : Plan) (i : Nat) (S0 : Tr XV) (vals : List XV) : List Nat → Tr XV
  | [] => .nil
  | t :: ts => match dSee ops p i S0 vals t with
    | some x => if t + 1 < 1024 then (dSlots ops p i S0 vals ts).set 10 t (some x) else dSlots ops p i S0 vals ts
    | none => dSlots ops p i S0 vals ts
/-- one operation's value, and the memory behind it -/
def dStep (Y : TYS) (call : Caller) (ops : Array Oper) (o : Oper) (S : Tr XV) (M : Mem) : Option (XV × Mem) :=
  match xWanted ops S o with
  | some false => some (.tup [], M)
  | some true => (match o.op with
    | .call c => (match c.callee with
      | .value fo => (match ev S fo, evs S c.args.toList with
        | some (.fn f caps), some xs => call f (xs ++ caps) M
        | _, _ => none)
      | _ => (match xop Y S M o.op with
        | some (some v, M') => some (v, M')
        | _ => none))
    | _ => (match xop Y S M o.op with
      | some (some v, M') => some (v, M')
      | some (none, M') => some (.tup [], M')
      | none => none))
  | none => none
/-- in the text's order: the values, the memories -/
def dGo (Y : TYS) (call : Caller) (ops : Array Oper) (p : Plan) (S0 : Tr XV) : List Oper → List XV → Mem → List Mem → Option (List XV × Mem × List Mem)
  | [], vals, M, mems => some (vals, M, mems)
  | o :: os, vals, M, mems => match dStep Y call ops o (dSlots ops p vals.length S0 vals (looks ops o)) M with
    | some (v, M') => dGo Y call ops p S0 os (vals ++ [v]) M' (if effOp o.op then mems ++ [M'] else mems)
    | none => none
/-- what looks at the memory sees the same whenever it may be carried out -/
def readsOK (Y : TYS) (call : Caller) (ops : Array Oper) (p : Plan) (S0 : Tr XV) (vals : List XV) (mems : List Mem) : Bool :=
  (List.range ops.size).all fun i => match ops[i]?, vals[i]? with
    | some o, some v => !readOp o.op ||
      (let lo := (p.effs.takeWhile fun e => bit (p.anc.getD i 0) e).length
       let hi := (p.effs.takeWhile fun e => !bit (p.anc.getD e 0) i).length
       (List.range' lo (hi + 1 - lo)).all fun j => match mems[j]? with
         | some M => (match dStep Y call ops o (dSlots ops p i S0 vals (looks ops o)) M with
           | some (v', _) => beqX v' v
           | none => false)
         | none => false)
    | _, _ => false
def dPut (n : Nat) : List Oper → List XV → Tr XV → Option (Tr XV)
  | o :: os, v :: vs, S => (match dput n S o.dst v with
    | some S' => dPut n os vs S'
    | none => none)
  | _, _, S => some S
/-- a region whose order is drawn -/
def xDraw (Y : TYS) (call : Caller) (n : Nat) (ops : Array Oper) (S : Tr XV) (M : Mem) : Option (Tr XV × Mem) :=
  match planOK ops (planOf ops) with
  | true => (match dGo Y call ops (planOf ops) S ops.toList [] M [M] with
    | some (vals, M', mems) => (match readsOK Y call ops (planOf ops) S vals mems with
      | true => (match dPut n ops.toList vals S with
        | some S' => some (S', M')
        | none => none)
      | false => none)
    | none => none)
  | false => none

def exec (Y : TYS) (F : FNS) : Nat → Nat → Code → Tr XV → Mem → Option (Exit × Tr XV × Mem)
  | 0, _, _, _, _ => none
  | fuel + 1, n, c, S, M => match c with
    | .skip => some (.normal, S, M)
    | .region _ ops false => (match xOps Y (xCall Y F (exec Y F fuel)) n ops ops.toList S M with
      | some (S', M') => some (.normal, S', M')
      | none => none)
    | .region _ ops true => (match xDraw Y (xCall Y F (exec Y F fuel)) n ops S M with
      | some (S', M') => some (.normal, S', M')
      | none => none)
    | .seq x y => (match exec Y F fuel n x S M with
      | some (.normal, S', M') => exec Y F fuel n y S' M'
      | r => r)
    | .cond t x y => (match ev S t with
      | some (.bool true) => exec Y F fuel n x S M
      | some (.bool false) => exec Y F fuel n y S M
      | _ => none)
    | .block id c => (match exec Y F fuel n c S M with
      | some (.exit id', S', M') => if id' = id then some (.normal, S', M') else some (.exit id', S', M')
      | r => r)
    | .loop b => (match exec Y F fuel n b S M with
      | some (.normal, S', M') => exec Y F fuel n (.loop b) S' M'
      | r => r)
    | .exit id => some (.exit id, S, M)
    | .scope c => exec Y F fuel n c S M
    | .label _ => some (.normal, S, M)
    | .ret => some (.ret, S, M)
    | _ => none
end Go.Proofs.YtcmaledchnhccaaGreatDoor

/-! That the executor follows the model: operands, arithmetic, comparisons. No condition. -/
namespace Go.Proofs.YtcmaledchnhccaaGreatDoor
open Go Go.RowKit

/-- what the table of types says is so -/
structure YOK (P : Program) (Y : TYS) : Prop where
  ok : ∀ T y, Y T = some y → P.underlying T = some y.d ∧ P.cellsOf T = y.c ∧ P.bytesOf T = y.b ∧ ∃ i, P.info? T = some i
  zero : ∀ T y z, Y T = some y → y.z = some z → ∃ v, (∃ i, P.info? T = some i ∧ i.zero = some v) ∧ LX (fun _ => none) z v.cells ∧ allSc z = true

section
variable {P : Program} {φ : Phi} {w0 w : World} {M M' : Mem} {S : Tr XV} {Y : TYS}

theorem xConst_ok {v : Value} {x : XV} (h : xConst v = some x) : VX φ x v := by
  unfold xConst at h
  split at h <;> cases h
  · exact .int _ _
  · exact .bool _
  · exact .str _
  · exact .nilp
  · exact .nils
  · exact .nilf
  · exact .nili

theorem ev_ok {a : Act} (hS : SR φ S a.tmps) {x : Operand} {y : XV} (h : ev S x = some y) : VX φ y (a.eval x) := by
  cases x with
  | tmp t =>
    obtain ⟨v, hv, hx⟩ := hS t y h
    have : a.eval (.tmp t) = v := by
      show a.tmps.getD t undef = v
      simp [Array.getD_eq_getD_getElem?, hv]
    rw [this]; exact hx
  | const v => exact xConst_ok h
  | func f =>
    cases h
    exact .fn (arr := #[]) rfl (fun j x c hx => by simp at hx)
  | global g => cases h

theorem VX_int {k n v} (h : VX φ (.int k n) v) : v = .int k n := by cases h; rfl
theorem VX_bool {b v} (h : VX φ (.bool b) v) : v = .bool b := by cases h; rfl
theorem VX_str {b v} (h : VX φ (.str b) v) : ∃ s : ByteArray, v = .string s ∧ s.data.toList = b := by cases h; exact ⟨_, rfl, rfl⟩
theorem VX_nilp {v} (h : VX φ .nilp v) : v = .pointer none := by cases h; rfl
theorem VX_nils {v} (h : VX φ .nils v) : v = .slice none 0 0 := by cases h; rfl
theorem VX_nilf {v} (h : VX φ .nilf v) : v = .nilFunc := by cases h; rfl
theorem VX_nili {v} (h : VX φ .nili v) : v = .nilIface := by cases h; rfl
theorem VX_ptr {g o v} (h : VX φ (.ptr g o) v) : ∃ p, φ g = some p ∧ v = .pointer (some ⟨p.1, o, none⟩) := by cases h; exact ⟨_, by assumption, rfl⟩
theorem VX_sl {g o l c v} (h : VX φ (.sl g o l c) v) : ∃ p, φ g = some p ∧ l ≤ c ∧ v = .slice (some ⟨p.1, o, none⟩) l c := by cases h; exact ⟨_, by assumption, by assumption, rfl⟩
theorem VX_so {g a s l v} (h : VX φ (.so g a s l) v) : ∃ p, φ g = some p ∧ a + l ≤ p.2 ∧ v = .slice (some ⟨p.1, a * s, none⟩) l (p.2 - a) := by cases h; exact ⟨_, by assumption, by assumption, rfl⟩
theorem VX_agg {cs v} (h : VX φ (.agg cs) v) : ∃ arr, v = .agg arr ∧ LX φ cs arr ∧ ∀ x ∈ cs, x.sc = true := by cases h; exact ⟨_, rfl, ⟨by assumption, by assumption⟩, by assumption⟩
theorem VX_tup {cs v} (h : VX φ (.tup cs) v) : ∃ arr, v = .tuple arr ∧ LX φ cs arr := by cases h; exact ⟨_, rfl, by assumption, by assumption⟩
theorem VX_fn {f cs v} (h : VX φ (.fn f cs) v) : ∃ arr, v = .func (.func f) #[] arr ∧ LX φ cs arr := by cases h; exact ⟨_, rfl, by assumption, by assumption⟩

theorem VX.str' (s : ByteArray) {l : List UInt8} (h : s.data.toList = l) : VX φ (.str l) (.string s) := by subst h; exact .str s

theorem xInt_ok {op : BinOp} {k : IntKind} {a b : Int} {r : XV} (T : TypeId) (h : xInt op k a b = some r) : ∃ v, (binOp op T (.int k a) (.int k b)).run P w = .ok v w ∧ VX φ r v := by
  have hb : ∀ (v : Value), (binOp op T (.int k a) (.int k b)).run P w = .ok v w → VX φ r v → ∃ v, (binOp op T (.int k a) (.int k b)).run P w = .ok v w ∧ VX φ r v := fun v h1 h2 => ⟨v, h1, h2⟩
  have e1 : (a == b) = decide (a = b) := by by_cases h : a = b <;> simp [h]
  have e2 : (a != b) = !decide (a = b) := by by_cases h : a = b <;> simp [h]
  cases op <;> simp only [xInt] at h
  case add => cases h; exact hb _ (by simp only [binOp, Op.intArith, ne_eq, not_true_eq_false, if_false]; rfl) (.int _ _)
  case sub => cases h; exact hb _ (by simp only [binOp, Op.intArith, ne_eq, not_true_eq_false, if_false]; rfl) (.int _ _)
  case mul => cases h; exact hb _ (by simp only [binOp, Op.intArith, ne_eq, not_true_eq_false, if_false]; rfl) (.int _ _)
  case quo =>
    split at h
    · cases h
    · rename_i h0; cases h; exact hb _ (by simp only [binOp, Op.intDiv, if_neg h0, ne_eq, not_true_eq_false, if_false]; rfl) (.int _ _)
  case rem =>
    split at h
    · cases h
    · rename_i h0; cases h; exact hb _ (by simp only [binOp, Op.intDiv, if_neg h0, ne_eq, not_true_eq_false, if_false]; rfl) (.int _ _)
  case and => cases h; exact hb _ (by simp only [binOp, Op.intBits, ne_eq, not_true_eq_false, if_false]; rfl) (.int _ _)
  case or => cases h; exact hb _ (by simp only [binOp, Op.intBits, ne_eq, not_true_eq_false, if_false]; rfl) (.int _ _)
  case xor => cases h; exact hb _ (by simp only [binOp, Op.intBits, ne_eq, not_true_eq_false, if_false]; rfl) (.int _ _)
  case andNot => cases h; exact hb _ (by simp only [binOp, Op.intBits, ne_eq, not_true_eq_false, if_false]; rfl) (.int _ _)
  case eql => cases h; exact hb (.bool (decide (a = b))) (by simp only [binOp, Op.intCmp, e1, ne_eq, not_true_eq_false, if_false]; rfl) (.bool _)
  case neq => cases h; exact hb (.bool (!decide (a = b))) (by simp only [binOp, Op.intCmp, e2, ne_eq, not_true_eq_false, if_false]; rfl) (.bool _)
  case lss => cases h; exact hb _ (by simp only [binOp, Op.intCmp, ne_eq, not_true_eq_false, if_false]; rfl) (.bool _)
  case leq => cases h; exact hb _ (by simp only [binOp, Op.intCmp, ne_eq, not_true_eq_false, if_false]; rfl) (.bool _)
  case gtr => cases h; exact hb _ (by simp only [binOp, Op.intCmp, ne_eq, not_true_eq_false, if_false]; rfl) (.bool _)
  case geq => cases h; exact hb _ (by simp only [binOp, Op.intCmp, ne_eq, not_true_eq_false, if_false]; rfl) (.bool _)
  all_goals cases h

theorem xStr_ok {op : BinOp} {s t : ByteArray} {r : XV} (T : TypeId) (h : xStr op s.data.toList t.data.toList = some r) : ∃ v, (binOp op T (.string s) (.string t)).run P w = .ok v w ∧ VX φ r v := by
  have hA : ∀ K : AV → Prop, aStr op s.data.toList t.data.toList K → ∃ z v, (binOp op T (.string s) (.string t)).run P w = .ok v w ∧ V (fun _ => none) z v ∧ K z := fun K hK => run_aStr T hK
  cases op <;> simp only [xStr] at h
  case add =>
    split at h
    · rename_i hl
      cases h
      obtain ⟨z, v, hr, hv, hz⟩ := hA (fun z => z = .str (s.data.toList ++ t.data.toList)) ⟨hl, rfl⟩
      subst hz
      obtain ⟨u, rfl, hu⟩ := V_str hv
      exact ⟨_, hr, VX.str' u hu⟩
    · cases h
  case eql => cases h; obtain ⟨z, v, hr, hv, hz⟩ := hA (fun z => z = .bool (decide (s.data.toList = t.data.toList))) rfl; subst hz; cases V_bool hv; exact ⟨_, hr, .bool _⟩
  case neq => cases h; obtain ⟨z, v, hr, hv, hz⟩ := hA (fun z => z = .bool (!decide (s.data.toList = t.data.toList))) rfl; subst hz; cases V_bool hv; exact ⟨_, hr, .bool _⟩
  case lss => cases h; obtain ⟨z, v, hr, hv, hz⟩ := hA (fun z => z = .bool (Op.bytesLess s.data.toList t.data.toList)) rfl; subst hz; cases V_bool hv; exact ⟨_, hr, .bool _⟩
  case leq => cases h; obtain ⟨z, v, hr, hv, hz⟩ := hA (fun z => z = .bool (Op.bytesLess s.data.toList t.data.toList || decide (s.data.toList = t.data.toList))) rfl; subst hz; cases V_bool hv; exact ⟨_, hr, .bool _⟩
  case gtr => cases h; obtain ⟨z, v, hr, hv, hz⟩ := hA (fun z => z = .bool (!(Op.bytesLess s.data.toList t.data.toList || decide (s.data.toList = t.data.toList)))) rfl; subst hz; cases V_bool hv; exact ⟨_, hr, .bool _⟩
  case geq => cases h; obtain ⟨z, v, hr, hv, hz⟩ := hA (fun z => z = .bool (!Op.bytesLess s.data.toList t.data.toList)) rfl; subst hz; cases V_bool hv; exact ⟨_, hr, .bool _⟩
  all_goals cases h

theorem xUn_ok {op : UnOp} {x r : XV} {v : Value} (hx : VX φ x v) (h : xUn op x = some r) : ∃ u, (Op.unary op v).run P w = .ok u w ∧ VX φ r u := by
  unfold xUn at h
  split at h
  · cases h; cases VX_bool hx; exact ⟨_, rfl, .bool _⟩
  · cases h; cases VX_int hx; exact ⟨_, rfl, .int _ _⟩
  · cases h
theorem xExtract_ok {x r : XV} {v : Value} {i : Nat} (hx : VX φ x v) (h : xExtract x i = some r) : ∃ u, (Instr.extract v i).run P w = .ok u w ∧ VX φ r u := by
  unfold xExtract at h
  split at h
  · obtain ⟨arr, rfl, hl⟩ := VX_tup hx
    obtain ⟨c, hc, hv⟩ := hl.get h
    exact ⟨c, by simp only [Instr.extract, hc]; rfl, hv⟩
  · cases h
end
end Go.Proofs.YtcmaledchnhccaaGreatDoor

/-! That the executor follows the model: equality, conversions, lengths, parts. No condition. -/
namespace Go.Proofs.YtcmaledchnhccaaGreatDoor
open Go Go.RowKit

/-- what more the table of types says -/
structure YOK2 (P : Program) (Y : TYS) : Prop extends YOK P Y where
  eqs : ∀ T y ts, Y T = some y → y.eq = some ts → eqTags P T = some ts
  lies : ∀ T y, Y T = some y → y.u = true → liesAt P P.depth T 1 0 T 1 = true

section
variable {P : Program} {φ : Phi} {w0 w : World} {M M' : Mem} {S : Tr XV} {Y : TYS}

theorem YOK.d (h : YOK P Y) {T : TypeId} {y : TY} (hy : Y T = some y) : P.underlying T = some y.d := (h.ok T y hy).1
theorem YOK.c (h : YOK P Y) {T : TypeId} {y : TY} (hy : Y T = some y) : P.cellsOf T = y.c := (h.ok T y hy).2.1
theorem YOK.b (h : YOK P Y) {T : TypeId} {y : TY} (hy : Y T = some y) : P.bytesOf T = y.b := (h.ok T y hy).2.2.1
theorem YOK.info (h : YOK P Y) {T : TypeId} {y : TY} (hy : Y T = some y) : ∃ i, P.info? T = some i := (h.ok T y hy).2.2.2
theorem YOK.sizeOf (h : YOK P Y) {T : TypeId} {y : TY} (hy : Y T = some y) (w : World) : (Go.sizeOf T).run P w = .ok y.c w := by
  obtain ⟨i, hi⟩ := h.info hy
  rw [← h.c hy]
  exact run_sizeOf' hi w

theorem toAV_V {H : Imm} {x : XV} {v : Value} (hx : VX φ x v) (hf : x.flat = true) : V H (toAV x) v := by
  cases hx <;> first
    | exact .int _ _
    | exact .bool _
    | exact .str _
    | exact .nilp
    | cases hf
theorem toAV_sc {x : XV} (hf : x.flat = true) : (toAV x).sc = true := by cases x <;> first | rfl | cases hf
theorem toAV_agg {H : Imm} {xs : List XV} {v : Value} (hx : VX φ (.agg xs) v) (hf : xs.all XV.flat = true) : V H (.agg (xs.map toAV)) v := by
  obtain ⟨arr, rfl, hl, _⟩ := VX_agg hx
  rw [List.all_eq_true] at hf
  refine V_agg_iff.2 ⟨arr, rfl, ⟨by simp [hl.1], fun j x hx => ?_⟩, fun j x hx => ?_⟩
  · rw [List.getElem?_map] at hx
    cases hq : xs[j]? with
    | none => rw [hq] at hx; cases hx
    | some y =>
      rw [hq] at hx; cases hx
      obtain ⟨c, hc, hv⟩ := hl.get hq
      exact ⟨c, hc, toAV_V hv (hf y (List.mem_of_getElem? hq))⟩
  · rw [List.getElem?_map] at hx
    cases hq : xs[j]? with
    | none => rw [hq] at hx; cases hx
    | some y =>
      rw [hq] at hx; cases hx
      exact toAV_sc (hf y (List.mem_of_getElem? hq))

theorem sameAddr_block (a b : Addr) (h : a.block = b.block) : (sameAddr a b).run P w = .ok (a == b) w := by
  unfold sameAddr
  simp [h, Sem.run_pure]

theorem xEq_ok (hY : YOK2 P Y) {T : TypeId} {cst : Bool} {x y : XV} {v u : Value} {b : Bool} {op : BinOp} {xo yo : Operand} (hx : VX φ x v) (hy : VX φ y u) (hc : cst = isConst yo) (h : xEq Y T cst x y = some b) :
    (Op.equal T v u).run P w = .ok b w ∧ (eqGuard op T xo yo v u).run P w = .ok () w := by
  unfold xEq at h
  split at h
  · cases h
  rename_i t ht
  have hd := hY.d ht
  have eqn : ∀ (x y : Value) (b : Bool), ((do match t.d, x, y with
    | .bool, .bool a, .bool b => pure (a == b)
    | .pointer _, .pointer none, .pointer b => pure b.isNone
    | .pointer _, .pointer _, .pointer none => pure false
    | .interface _, .nilIface, .nilIface => pure true
    | .interface _, .nilIface, .iface _ _ | .interface _, .iface _ _, .nilIface => pure false
    | .slice _, .slice none _ _, .slice b _ _ => pure b.isNone
    | .slice _, .slice _ _ _, .slice none _ _ => pure false
    | .func _ _ _, .nilFunc, .nilFunc => pure true
    | .func _ _ _, .nilFunc, .func _ _ _ | .func _ _ _, .func _ _ _, .nilFunc => pure false
    | _, _, _ => stuck "x" : Sem Bool).run P w = .ok b w) → (Op.equal T x y).run P w = .ok b w := by
    intro x y b hb
    show (Op.equalIn (9999 + 1) _ _ _).run P w = _
    unfold Op.equalIn
    rw [run_bind_ok (run_underlying hd w)]
    revert hb
    split <;> intro hb <;> first
      | (cases hb; rename_i e; simp only [e]; rfl)
      | (simp only [stuck] at hb; cases hb)
  split at h
  · rename_i e; cases h; cases VX_bool hx; cases VX_bool hy; exact ⟨eqn _ _ _ (by rw [e]; rfl), eqGuard_bool ..⟩
  · rename_i e g o g' o' hd'
    split at h
    · rename_i te hte
      split at h
      · rename_i hg
        cases h
        obtain ⟨rfl, hc0⟩ := hg
        obtain ⟨p, hp, rfl⟩ := VX_ptr hx
        obtain ⟨q, hq, rfl⟩ := VX_ptr hy
        rw [hp] at hq; cases hq
        refine ⟨?_, eqGuard_ptr ..⟩
        show (Op.equalIn (9999 + 1) _ _ _).run P w = _
        unfold Op.equalIn
        rw [run_bind_ok (run_underlying hd w)]
        simp only [hd']
        rw [run_bind_ok (hY.sizeOf hte w), if_pos hc0, sameAddr_block ⟨p.1, o, none⟩ ⟨p.1, o', none⟩ rfl]
        by_cases ho : o = o'
        · subst ho; simp
        · have : ¬ ((⟨p.1, o, none⟩ : Addr) = ⟨p.1, o', none⟩) := by intro h; cases h; exact ho rfl
          simp [ho]
      · cases h
    · cases h
  · rename_i e; cases h; obtain ⟨p, hp, rfl⟩ := VX_ptr hx; cases VX_nilp hy; exact ⟨eqn _ _ _ (by rw [e]; rfl), eqGuard_ptr ..⟩
  · rename_i e; cases h; obtain ⟨p, hp, rfl⟩ := VX_ptr hy; cases VX_nilp hx; exact ⟨eqn _ _ _ (by rw [e]; rfl), eqGuard_ptr ..⟩
  · rename_i e; cases h; cases VX_nilp hx; cases VX_nilp hy; exact ⟨eqn _ _ _ (by rw [e]; rfl), eqGuard_ptr ..⟩
  · rename_i e; cases h; obtain ⟨p, hp, _, rfl⟩ := VX_sl hx; cases VX_nils hy; exact ⟨eqn _ _ _ (by rw [e]; rfl), eqGuard_slice ..⟩
  · rename_i e; cases h; obtain ⟨p, hp, _, rfl⟩ := VX_so hx; cases VX_nils hy; exact ⟨eqn _ _ _ (by rw [e]; rfl), eqGuard_slice ..⟩
  · rename_i e; cases h; cases VX_nils hx; cases VX_nils hy; exact ⟨eqn _ _ _ (by rw [e]; rfl), eqGuard_slice ..⟩
  · rename_i e; cases h; obtain ⟨arr, rfl, _⟩ := VX_fn hx; cases VX_nilf hy; exact ⟨eqn _ _ _ (by rw [e]; rfl), by unfold eqGuard; cases op <;> rfl⟩
  · rename_i e; cases h; cases VX_nilf hx; cases VX_nilf hy; exact ⟨eqn _ _ _ (by rw [e]; rfl), by unfold eqGuard; cases op <;> rfl⟩
  · rename_i e; cases h; cases hx; cases VX_nili hy; exact ⟨eqn _ _ _ (by rw [e]; rfl), by unfold eqGuard; cases op <;> rfl⟩
  · split at h
    · rename_i hcst
      cases h; cases VX_nili hx; cases VX_nili hy; rename_i e
      refine ⟨eqn _ _ _ (by rw [e]; rfl), ?_⟩
      rw [hc] at hcst
      cases yo with
      | const c => unfold eqGuard; cases op <;> first | rfl | (cases xo <;> rfl)
      | _ => cases hcst
    · cases h
  · split at h
    · rename_i hf
      split at h
      · rename_i ts hts
        obtain ⟨h1, h2⟩ := run_eqAgg (P := P) (w := w) (H := fun _ => none) (hY.eqs T t ts ht hts) h (toAV_agg hx hf.1) (toAV_agg hy hf.2)
        exact ⟨h1, h2 op xo yo⟩
      · cases h
    · cases h
  · cases h

theorem xBin_ok (hY : YOK2 P Y) {op : BinOp} {T : TypeId} {cst : Bool} {x y r : XV} {v u : Value} {xo yo : Operand} (hx : VX φ x v) (hy : VX φ y u) (hc : cst = isConst yo) (h : xBin Y op T cst x y = some r) :
    ∃ z, (do eqGuard op T xo yo v u; binOp op T v u : Sem Value).run P w = .ok z w ∧ VX φ r z := by
  unfold xBin at h
  split at h
  · rename_i k a k' b
    cases VX_int hx; cases VX_int hy
    rw [run_bind_ok (eqGuard_int P op T xo yo k a _ w)]
    split at h
    · split at h
      · rename_i hb; cases h
        exact ⟨_, by simp only [binOp, Op.shift]; rw [if_neg (by omega)]; rfl, .int _ _⟩
      · cases h
    · split at h
      · rename_i hb; cases h
        exact ⟨_, by simp only [binOp, Op.shift]; rw [if_neg (by omega)]; rfl, .int _ _⟩
      · cases h
    · split at h
      · rename_i hk; subst hk
        exact xInt_ok T h
      · cases h
  · rename_i a b
    obtain ⟨s, rfl, rfl⟩ := VX_str hx
    obtain ⟨t, rfl, rfl⟩ := VX_str hy
    rw [run_bind_ok (eqGuard_str P op T xo yo s _ w)]
    exact xStr_ok T h
  · rename_i h1 h2
    have heq : ∀ b, xEq Y T cst x y = some b → (∀ op, (eqGuard op T xo yo v u).run P w = .ok () w) ∧ (Op.equal T v u).run P w = .ok b w := fun b hb => ⟨fun op => (xEq_ok (op := op) hY hx hy hc hb).2, (xEq_ok (op := .eql) (xo := xo) hY hx hy hc hb).1⟩
    -- the model's own road: neither two numbers nor two texts
    have hroad : ∀ b, xEq Y T cst x y = some b → (binOp .eql T v u).run P w = .ok (.bool b) w ∧ (binOp .neq T v u).run P w = .ok (.bool (!b)) w := by
      intro b hb
      have he := (heq b hb).2
      have e1 : (do pure (.bool (← Op.equal T v u)) : Sem Value).run P w = .ok (.bool b) w := by rw [run_bind_ok he]; rfl
      have e2 : (do pure (.bool (!(← Op.equal T v u))) : Sem Value).run P w = .ok (.bool (!b)) w := by rw [run_bind_ok he]; rfl
      unfold xEq at hb
      split at hb
      · cases hb
      · cases hx <;> cases hy <;> first
          | exact ⟨e1, e2⟩
          | (exfalso; exact h1 _ _ _ _ rfl rfl)
          | (exfalso; exact h2 _ _ rfl rfl)
    split at h
    · split at h
      · rename_i b hb; cases h
        rw [run_bind_ok ((heq b hb).1 _)]
        exact ⟨_, (hroad b hb).1, .bool _⟩
      · cases h
    · split at h
      · rename_i b hb; cases h
        rw [run_bind_ok ((heq b hb).1 _)]
        exact ⟨_, (hroad b hb).2, .bool _⟩
      · cases h
    · cases h
end
end Go.Proofs.YtcmaledchnhccaaGreatDoor

/-! That the executor follows the model: conversions, lengths, loads, parts, addresses. No condition. -/
namespace Go.Proofs.YtcmaledchnhccaaGreatDoor
open Go Go.RowKit

section
variable {P : Program} {φ : Phi} {w0 w : World} {M M' : Mem} {S : Tr XV} {Y : TYS}

theorem xConv_ok (hY : YOK2 P Y) (R : MR P φ w0 M w) {s d : TypeId} {x r : XV} {v : Value} (hx : VX φ x v) (h : xConv Y M s d x = some r) : ∃ u, (convert s d v).run P w = .ok u w ∧ VX φ r u := by
  unfold xConv at h
  split at h
  · rename_i ys yd hs hd
    have hs' := hY.d hs
    have hd' := hY.d hd
    split at h
    · rename_i k k' n e
      cases h; cases VX_int hx
      rw [e] at hd'
      refine ⟨_, ?_, .int _ _⟩
      unfold convert
      rw [run_bind_ok (run_underlying hs' w), run_bind_ok (run_underlying hd' w)]
      rfl
    · rename_i l e1 e2
      cases h
      obtain ⟨t, rfl, rfl⟩ := VX_str hx
      rw [e1] at hs'; rw [e2] at hd'
      refine ⟨_, ?_, .str _⟩
      unfold convert
      rw [run_bind_ok (run_underlying hs' w), run_bind_ok (run_underlying hd' w)]
      rfl
    · rename_i t g o e1 e2
      split at h
      · rename_i b yt hb hyt
        split at h
        · rename_i hc
          cases h
          obtain ⟨p, hp, rfl⟩ := VX_ptr hx
          obtain ⟨q, cur, hq, hlo, hh, hl⟩ := R.lies hb
          rw [hp] at hq; cases hq
          rw [e1] at hs'; rw [e2] at hd'
          obtain ⟨j, hj⟩ := hY.info hyt
          refine ⟨_, Lib.run_to_unsafe w ⟨p.1, o, none⟩ hs' hd' hj ?_ (show w.shape? p.1 = some (b.T, cur.size) by simp [World.shape?, hh]) (by have := hl.len; simp only; omega), hx⟩
          rw [← cellsOf_eq hj, hY.c hyt]; exact hc.2
        · cases h
      · cases h
    · rename_i t g o e1 e2
      split at h
      · rename_i b yt hb hyt
        split at h
        · rename_i hc
          obtain ⟨rfl, hex, hT, hu, hlen, hc0⟩ := hc
          cases h
          obtain ⟨p, hp, rfl⟩ := VX_ptr hx
          obtain ⟨q, cur, hq, hlo, hh, hl⟩ := R.lies hb
          rw [hp] at hq; cases hq
          rw [e1] at hs'; rw [e2] at hd'
          obtain ⟨j, hj⟩ := hY.info hyt
          have hsz : cur.size = yt.c := by rw [hl.exact hex, hlen]
          refine ⟨_, Lib.run_from_unsafe w ⟨p.1, 0, none⟩ hs' hd' hj (show w.shape? p.1 = some (b.T, cur.size) by simp [World.shape?, hh]) ?_, hx⟩
          rw [hT, hY.c hyt, hsz, Nat.div_self (Nat.pos_of_ne_zero hc0)]
          exact hY.lies t yt hyt hu
        · cases h
      · cases h
    · cases h
  · cases h

theorem xMinMax_ok {mx : Bool} {x y r : XV} {v u : Value} {Ts : Array TypeId} {ty : TypeId} (hx : VX φ x v) (hy : VX φ y u) (h : xMinMax mx x y = some r) :
    ∃ z, ((if mx then Builtin.max_ else Builtin.min_) Ts ty #[v, u]).run P w = .ok z w ∧ VX φ r z := by
  unfold xMinMax at h
  split at h
  · rename_i k a k' b
    split at h
    · rename_i hk; subst hk
      cases h; cases VX_int hx; cases VX_int hy
      cases mx
      · refine ⟨.int k (min a b), ?_, .int _ _⟩
        simp [Builtin.min_, Builtin.min2]
        rw [Int.min_def]; split <;> split <;> omega
      · refine ⟨.int k (max a b), ?_, .int _ _⟩
        simp [Builtin.max_, Builtin.max2]
        rw [Int.max_def]; split <;> split <;> omega
    · cases h
  · cases h

theorem xLen_ok (hY : YOK2 P Y) {T ty : TypeId} {x r : XV} {v : Value} (hx : VX φ x v) (h : xLen Y T x = some r) : ∃ u, (Builtin.len_ #[T] ty #[v]).run P w = .ok u w ∧ VX φ r u := by
  unfold xLen at h
  split at h
  · cases h
  rename_i y hy
  have hT := hY.d hy
  split at h <;> first | cases h | skip
  · rename_i l e
    rw [e] at hT
    obtain ⟨s, rfl, rfl⟩ := VX_str hx
    refine ⟨_, ?_, .int _ _⟩
    unfold Builtin.len_
    simp [run_underlying hT, Sem.run_bind, goInt]
  · rename_i e' e
    rw [e] at hT
    cases VX_nils hx
    refine ⟨_, ?_, .int _ _⟩
    unfold Builtin.len_
    simp [run_underlying hT, Sem.run_bind, goInt]
  · rename_i e' g o l c e
    rw [e] at hT
    obtain ⟨p, _, _, rfl⟩ := VX_sl hx
    refine ⟨_, ?_, .int _ _⟩
    unfold Builtin.len_
    simp [run_underlying hT, Sem.run_bind, goInt]
  · rename_i e' g a s l e
    rw [e] at hT
    obtain ⟨p, _, _, rfl⟩ := VX_so hx
    refine ⟨_, ?_, .int _ _⟩
    unfold Builtin.len_
    simp [run_underlying hT, Sem.run_bind, goInt]
theorem xCap_ok (hY : YOK2 P Y) {T ty : TypeId} {x r : XV} {v : Value} (hx : VX φ x v) (h : xCap Y T x = some r) : ∃ u, (Builtin.cap_ #[T] ty #[v]).run P w = .ok u w ∧ VX φ r u := by
  unfold xCap at h
  split at h
  · cases h
  rename_i y hy
  have hT := hY.d hy
  split at h <;> first | cases h | skip
  · rename_i e' e
    rw [e] at hT
    cases VX_nils hx
    refine ⟨_, ?_, .int _ _⟩
    unfold Builtin.cap_
    simp [run_underlying hT, Sem.run_bind, goInt]
  · rename_i e' g o l c e
    rw [e] at hT
    obtain ⟨p, _, _, rfl⟩ := VX_sl hx
    refine ⟨_, ?_, .int _ _⟩
    unfold Builtin.cap_
    simp [run_underlying hT, Sem.run_bind, goInt]

/-- the cells that a part of a block holds -/
theorem Lies.sub {b : Blk} {k : Nat} {cur : Array Value} (hl : Lies P φ b k cur) {o n : Nat} (h : o + n ≤ b.cells.length) :
    LX φ ((b.cells.drop o).take n) (cur.extract o (o + n)) ∧ ∀ x ∈ (b.cells.drop o).take n, x.sc = true := by
  have hsz := hl.len
  refine ⟨⟨by simp; omega, fun j x c hx hc => ?_⟩, fun x hx => hl.sc x (List.mem_of_mem_drop (List.mem_of_mem_take hx))⟩
  have hj : j < n := by
    have := getElem?_lt hx
    simp at this; omega
  rw [List.getElem?_take, if_pos hj, List.getElem?_drop] at hx
  rw [Array.getElem?_extract] at hc
  split at hc
  · exact hl.val _ _ _ hx hc
  · cases hc

theorem Lies.at {b : Blk} {k : Nat} {cur : Array Value} (hl : Lies P φ b k cur) {o : Nat} {x : XV} (h : b.cells[o]? = some x) : ∃ c, cur[o]? = some c ∧ VX φ x c := by
  have hlt := getElem?_lt h
  have hsz := hl.len
  exact ⟨cur[o]'(by omega), by simp, hl.val o x _ h (by simp)⟩

theorem run_loadCells_at {g o : Nat} {cur : Array Value} {T : TypeId} {fr : Nat × Nat} (hh : w.heap[g]? = some (.cells cur T fr)) (n : Nat) (hn : o + n ≤ cur.size) :
    (loadCells ⟨g, o, none⟩ n).run P w = .ok (cur.extract o (o + n)) w := by
  have := run_loadCells_list (P := P) (w := w) ⟨g, o, none⟩ (cur.extract o (o + n)).toList (by
    intro j u hu
    rw [Array.getElem?_toList, Array.getElem?_extract] at hu
    rw [addr_add]
    split at hu
    · exact cell_at hh hu
    · cases hu)
  have hl : (cur.extract o (o + n)).toList.length = n := by simp; omega
  rw [hl, Array.toArray_toList] at this
  exact this

theorem xLoad_ok (hY : YOK2 P Y) (R : MR P φ w0 M w) {T : TypeId} {x r : XV} {v : Value} (hx : VX φ x v) (h : xLoad Y M T x = some r) :
    ∃ a u, v = .pointer (some a) ∧ (loadVar T a).run P w = .ok u w ∧ VX φ r u := by
  unfold xLoad at h
  split at h
  · rename_i g o
    split at h
    · rename_i b y hb hy
      obtain ⟨p, hp, rfl⟩ := VX_ptr hx
      obtain ⟨q, cur, hq, hlo, hh, hl⟩ := R.lies hb
      rw [hp] at hq; cases hq
      have hT := hY.d hy
      refine ⟨⟨p.1, o, none⟩, ?_⟩
      split at h
      · rename_i hagg
        split at h
        · rename_i hle
          cases h
          obtain ⟨h1, h2⟩ := hl.sub hle
          have hsz := hl.len
          refine ⟨.agg (cur.extract o (o + y.c)), rfl, ?_, .agg h2 h1.1 h1.2⟩
          unfold loadVar
          rw [run_bind_ok (run_isAgg hT w), hagg]
          show ((Go.sizeOf T >>= fun s => loadCells _ s >>= fun cs => pure (Value.agg cs)) : Sem Value).run P w = _
          rw [run_bind_ok (hY.sizeOf hy w), run_bind_ok (run_loadCells_at hh y.c (by omega))]
          rfl
        · cases h
      · rename_i hagg
        obtain ⟨c, hc, hv⟩ := hl.at h
        refine ⟨c, rfl, ?_, hv⟩
        unfold loadVar
        rw [run_bind_ok (run_isAgg hT w), show aggD y.d = false by simpa using hagg]
        show (load ⟨p.1, o, none⟩).run P w = _
        unfold load
        simp only [Sem.run]
        rw [cell_at hh hc]
    · cases h
  · cases h

theorem xPart_ok (hY : YOK2 P Y) {T : TypeId} {cs : List XV} {o : Nat} {r : XV} {arr : Array Value} (hl : LX φ cs arr) (hs : ∀ x ∈ cs, x.sc = true) (h : xPart Y T cs o = some r) : ∃ u, (part T arr o).run P w = .ok u w ∧ VX φ r u := by
  unfold xPart at h
  split at h
  · rename_i y hy
    have hT := hY.d hy
    split at h
    · rename_i hagg
      split at h
      · rename_i hle
        cases h
        have hb : Lies P φ ⟨0, true, none, cs⟩ 0 arr := ⟨by rw [hl.1]; exact Nat.le_refl _, hs, hl.2, fun _ => hl.1, fun h => by cases h⟩
        obtain ⟨h1, h2⟩ := hb.sub hle
        refine ⟨.agg (arr.extract o (o + y.c)), ?_, .agg h2 h1.1 h1.2⟩
        unfold part
        rw [run_bind_ok (run_isAgg hT w), hagg]
        show ((Go.sizeOf T >>= fun s => pure (Value.agg (arr.extract o (o + s)))) : Sem Value).run P w = _
        rw [run_bind_ok (hY.sizeOf hy w)]
        rfl
      · cases h
    · rename_i hagg
      obtain ⟨c, hc, hv⟩ := hl.get h
      refine ⟨c, ?_, hv⟩
      unfold part
      rw [run_bind_ok (run_isAgg hT w), show aggD y.d = false by simpa using hagg]
      simp only [hc]; rfl
  · cases h
theorem xField_ok (hY : YOK2 P Y) {T : TypeId} {x r : XV} {f : Nat} {v : Value} (hx : VX φ x v) (h : xField Y T x f = some r) : ∃ u, (Instr.field T v f).run P w = .ok u w ∧ VX φ r u := by
  unfold xField at h
  split at h
  · rename_i y cs hy
    have hT := hY.d hy
    split at h
    · rename_i fields e
      rw [e] at hT
      split at h
      · rename_i fl hf
        obtain ⟨arr, rfl, hl, hs⟩ := VX_agg hx
        obtain ⟨u, hr, hv⟩ := xPart_ok (w := w) hY hl hs h
        refine ⟨u, ?_, hv⟩
        unfold Instr.field
        rw [run_bind_ok (run_underlying hT w)]
        simp only [hf]
        rw [run_bind_ok (show (asAgg (.agg arr)).run P w = .ok arr w from rfl)]
        exact hr
      · cases h
    · cases h
  · cases h
theorem xFieldAddr_ok (hY : YOK2 P Y) {T : TypeId} {x r : XV} {f : Nat} {v : Value} (hx : VX φ x v) (h : xFieldAddr Y T x f = some r) : ∃ u, (Instr.fieldAt T v f).run P w = .ok u w ∧ VX φ r u := by
  unfold xFieldAddr at h
  split at h
  · rename_i y g o hy
    have hT := hY.d hy
    split at h
    · rename_i fields e
      rw [e] at hT
      split at h
      · rename_i fl hf
        split at h
        · rename_i yf hyf
          split at h
          · cases h
          · rename_i hc
            cases h
            obtain ⟨p, hp, rfl⟩ := VX_ptr hx
            refine ⟨.pointer (some ⟨p.1, o + fl.offset, none⟩), ?_, .ptr hp⟩
            unfold Instr.fieldAt
            rw [run_bind_ok (run_underlying hT w)]
            simp only [hf]
            show ((Instr.sureAddr _ >>= fun a => fieldPlace a fl >>= fun p => pure (Value.pointer (some p))) : Sem Value).run P w = _
            rw [run_bind_ok (show (Instr.sureAddr _).run P w = .ok _ w from rfl)]
            have : (fieldPlace ⟨p.1, o, none⟩ fl).run P w = .ok ⟨p.1, o + fl.offset, none⟩ w := by
              unfold fieldPlace
              rw [run_bind_ok (hY.sizeOf hyf w), if_neg hc, addr_add' _ _ rfl]; rfl
            rw [run_bind_ok this]; rfl
        · cases h
      · cases h
    · cases h
  · cases h
theorem xIndexAddr_ok (hY : YOK2 P Y) {T : TypeId} {x i r : XV} {v u : Value} (hx : VX φ x v) (hi : VX φ i u) (h : xIndexAddr Y T x i = some r) : ∃ z, (Instr.indexAt T v u).run P w = .ok z w ∧ VX φ r z := by
  unfold xIndexAddr at h
  split at h
  · rename_i y k n hy
    cases VX_int hi
    have hT := hY.d hy
    split at h
    · rename_i e ed
      rw [ed] at hT
      split at h
      · rename_i ye hye
        split at h
        · cases h
        · rename_i hc
          have hc0 : ye.c ≠ 0 := fun h => hc (.inl h)
          have h0 : 0 ≤ n := by omega
          have main : ∀ (a : Addr) (len cap : Nat), a.spot = none → n < len → (Instr.indexAt T (.slice (some a) len cap) (.int k n)).run P w = .ok (.pointer (some ⟨a.block, a.off + n.toNat * ye.c, none⟩)) w := by
            intro a len cap hsp hlt
            unfold Instr.indexAt
            simp only [asIntOf, run_underlying hT, go_sem, Sem.run_bind, Result.andThen_ok]
            simp [h0, hlt, hY.sizeOf hye, addr_add' _ _ hsp]
          split at h
          · split at h
            · cases h
              obtain ⟨p, hp, _, rfl⟩ := VX_sl hx
              exact ⟨_, main _ _ _ rfl (by assumption), .ptr hp⟩
            · cases h
          · split at h
            · rename_i hh
              cases h
              obtain ⟨p, hp, _, rfl⟩ := VX_so hx
              exact ⟨_, main _ _ _ rfl hh.2, .ptr hp⟩
            · cases h
          · cases h
      · cases h
    · rename_i len e ed
      rw [ed] at hT
      split at h
      · rename_i ye hye
        split at h
        · split at h
          · rename_i hh
            cases h
            obtain ⟨p, hp, rfl⟩ := VX_ptr hx
            refine ⟨.pointer (some ⟨p.1, _, none⟩), ?_, .ptr hp⟩
            unfold Instr.indexAt
            simp only [asIntOf, run_underlying hT, go_sem, Sem.run_bind, Result.andThen_ok, Instr.sureAddr]
            simp [hh.2.1, hh.2.2, hY.sizeOf hye, addr_add' ⟨p.1, _, none⟩ _ rfl]
          · cases h
        · cases h
      · cases h
    · cases h
  · cases h
theorem xIndex_ok (hY : YOK2 P Y) {T : TypeId} {x i r : XV} {v u : Value} (hx : VX φ x v) (hi : VX φ i u) (h : xIndex Y T x i = some r) : ∃ z, (Instr.index T v u).run P w = .ok z w ∧ VX φ r z := by
  unfold xIndex at h
  split at h
  · rename_i y l k n hy
    cases VX_int hi
    have hT := hY.d hy
    split at h
    · rename_i ed
      rw [ed] at hT
      split at h
      · rename_i h0
        split at h
        · rename_i b hb
          cases h
          obtain ⟨s, rfl, rfl⟩ := VX_str hx
          refine ⟨_, ?_, .int _ _⟩
          have hsb : s[n.toNat]? = some b := by
            have := getElem?_lt hb
            rw [getElem?_pos s n.toNat (by simpa using this)]
            rw [List.getElem?_eq_getElem this] at hb
            cases hb
            rfl
          unfold Instr.index
          simp only [asIntOf, run_underlying hT, go_sem, Sem.run_bind, Result.andThen_ok]
          simp [h0, hsb]
        · cases h
      · cases h
    · cases h
  · rename_i y cs k n hy
    cases VX_int hi
    have hT := hY.d hy
    split at h
    · rename_i len e ed
      rw [ed] at hT
      split at h
      · rename_i ye hye
        split at h
        · rename_i hh
          obtain ⟨arr, rfl, hl, hs⟩ := VX_agg hx
          obtain ⟨z, hr, hv⟩ := xPart_ok (w := w) hY hl hs h
          refine ⟨z, ?_, hv⟩
          unfold Instr.index
          rw [run_bind_ok (show (asIntOf (.int k n)).run P w = .ok (k, n) w from rfl)]
          simp only []
          rw [run_bind_ok (run_underlying hT w)]
          simp only []
          rw [if_pos hh, run_bind_ok (hY.sizeOf hye w)]
          exact hr
        · cases h
      · cases h
    · cases h
  · cases h
end
end Go.Proofs.YtcmaledchnhccaaGreatDoor

/-! That the executor follows the model: writes, new blocks, what is built. No condition. -/
namespace Go.Proofs.YtcmaledchnhccaaGreatDoor
open Go Go.RowKit

theorem xSplice_length {cs xs : List XV} {o : Nat} (h : o + xs.length ≤ cs.length) : (xSplice cs o xs).length = cs.length := by
  unfold xSplice; simp; omega
theorem xSplice_get {cs xs : List XV} {o : Nat} (h : o + xs.length ≤ cs.length) (t : Nat) : (xSplice cs o xs)[t]? = if o ≤ t ∧ t < o + xs.length then xs[t - o]? else cs[t]? := by
  unfold xSplice
  rw [List.append_assoc]
  by_cases h1 : t < o
  · rw [List.getElem?_append_left (by simp; omega), List.getElem?_take, if_pos h1, if_neg (by omega)]
  · rw [List.getElem?_append_right (by simp; omega)]
    have hl : (cs.take o).length = o := by simp; omega
    rw [hl]
    by_cases h2 : t < o + xs.length
    · rw [List.getElem?_append_left (by omega), if_pos (by omega)]
    · rw [List.getElem?_append_right (by omega), if_neg (by omega), List.getElem?_drop]
      congr 1; omega
theorem arr_splice_get {cur : Array Value} {us : List Value} {o : Nat} (h : o + us.length ≤ cur.size) (t : Nat) :
    (cur.toList.take o ++ us ++ cur.toList.drop (o + us.length)).toArray[t]? = if o ≤ t ∧ t < o + us.length then us[t - o]? else cur[t]? := by
  rw [List.getElem?_toArray, List.append_assoc]
  by_cases h1 : t < o
  · rw [List.getElem?_append_left (by simp; omega), List.getElem?_take, if_pos h1, if_neg (by omega), Array.getElem?_toList]
  · rw [List.getElem?_append_right (by simp; omega)]
    have hl : (cur.toList.take o).length = o := by simp; omega
    rw [hl]
    by_cases h2 : t < o + us.length
    · rw [List.getElem?_append_left (by omega), if_pos (by omega)]
    · rw [List.getElem?_append_right (by omega), if_neg (by omega), List.getElem?_drop, Array.getElem?_toList]
      congr 1; omega
theorem allSc_mem {xs : List XV} (h : allSc xs = true) : ∀ x ∈ xs, x.sc = true := by unfold allSc at h; rwa [List.all_eq_true] at h
theorem allSc_of {xs : List XV} (h : ∀ x ∈ xs, x.sc = true) : allSc xs = true := by unfold allSc; rwa [List.all_eq_true]
theorem xSplice_mem {cs xs : List XV} {o : Nat} {x : XV} (h : x ∈ xSplice cs o xs) : x ∈ cs ∨ x ∈ xs := by
  unfold xSplice at h
  rw [List.mem_append, List.mem_append] at h
  rcases h with (h | h) | h
  · exact .inl (List.mem_of_mem_take h)
  · exact .inr h
  · exact .inl (List.mem_of_mem_drop h)

section
variable {P : Program} {φ : Phi} {w0 w : World} {M M' : Mem} {S : Tr XV} {Y : TYS}

theorem xWrite_ok (R : MR P φ w0 M w) {g o : Nat} {xs : List XV} {us : List Value} {p : Nat × Nat} (hp : φ g = some p) (hl : LX φ xs us.toArray) (h1 : ∀ u ∈ us, u.oneCell' = true) (h : xWrite M g o xs = some M') :
    ∃ w', (storeCells ⟨p.1, o, none⟩ us).run P w = .ok () w' ∧ MR P φ w0 M' w' := by
  unfold xWrite at h
  split at h
  · rename_i b hb
    split at h
    · rename_i hc
      obtain ⟨hfit, hsc⟩ := hc
      cases h
      obtain ⟨q, cur, hq, hlo, hh, hL⟩ := R.lies hb
      rw [hp] at hq; cases hq
      have hn : us.length = xs.length := by have := hl.1; simpa using this
      have hsz := hL.len
      have hst := run_storeCells_at P p.1 o b.T us 0 cur w hh (by omega) h1
      simp only [Nat.add_zero] at hst
      refine ⟨_, hst, R.write hb hp hh rfl rfl ?_⟩
      have hlen : (cur.toList.take o ++ us ++ cur.toList.drop (o + us.length)).toArray.size = cur.size := by simp; omega
      refine ⟨?_, ?_, ?_, ?_, ?_⟩
      · simp only; rw [xSplice_length hfit, hlen]; exact hsz
      · intro x hx
        rcases xSplice_mem hx with hx | hx
        · exact hL.sc x hx
        · exact allSc_mem hsc x hx
      · intro j x c hx hcj
        rw [xSplice_get hfit] at hx
        rw [arr_splice_get (by omega)] at hcj
        rw [hn] at hcj
        split at hx
        · rename_i hj
          rw [if_pos hj] at hcj
          exact hl.2 _ _ _ hx (by simpa using hcj)
        · rename_i hj
          rw [if_neg hj] at hcj
          exact hL.val _ _ _ hx hcj
      · intro he; rw [hlen]; simp only; rw [xSplice_length hfit]; exact hL.exact he
      · intro he; rw [hlen]; exact hL.room he
    · cases h
  · cases h

theorem xStore_ok (hY : YOK2 P Y) (R : MR P φ w0 M w) {T : TypeId} {x y : XV} {v u : Value} (hx : VX φ x v) (hy : VX φ y u) (h : xStore Y M T x y = some M') : ∃ w', (Instr.storeAt T v u).run P w = .ok () w' ∧ MR P φ w0 M' w' := by
  unfold xStore at h
  split at h
  · rename_i g o t ht
    split at h
    · rename_i hn
      obtain ⟨p, hp, rfl⟩ := VX_ptr hx
      have hsc : y.cells.all XV.sc = true := by
        unfold xWrite at h
        split at h
        · split at h
          · rename_i hc; exact hc.2
          · cases h
        · cases h
      obtain ⟨hl, h1⟩ := hy.cells hsc
      obtain ⟨w', hr, R'⟩ := xWrite_ok (us := u.cells.toList) R hp (by simpa using hl) h1 h
      refine ⟨w', ?_, R'⟩
      unfold Instr.storeAt
      rw [run_bind_ok (show (Instr.sureAddr _).run P w = .ok _ w from rfl)]
      unfold storeVar
      rw [run_bind_ok (hY.sizeOf ht w), if_neg (by rw [hl.1, hn]; simp)]
      exact hr
    · cases h
  · cases h

theorem xNew_ok (R : MR P φ w0 M w) {T : TypeId} {cells : List XV} {arr : Array Value} {r : XV} (hl : LX φ cells arr) (h : xNew M T cells = some (r, M')) :
    r = .ptr M.n 0 ∧ φ.le (φ.ext M.n (w.heap.size, 0)) ∧ MR P (φ.ext M.n (w.heap.size, 0)) w0 M' (w.alloc (.cells arr T)) := by
  unfold xNew at h
  split at h
  · rename_i hsc
    split at h
    · rename_i M1 hM
      cases h
      exact ⟨rfl, R.le_ext _, R.add (b := ⟨T, true, none, cells⟩) (k := 0) (cur := arr) rfl ⟨by rw [hl.1]; exact Nat.le_refl _, allSc_mem hsc, hl.2, fun _ => hl.1, fun h => by cases h⟩ hM rfl rfl rfl rfl⟩
    · cases h
  · cases h

theorem YOK.zv (hY : YOK P Y) {T : TypeId} {y : TY} {z : List XV} (hy : Y T = some y) (hz : y.z = some z) : ∃ v : Value, (∃ i, P.info? T = some i ∧ i.zero = some v) ∧ (∀ w, (zeroValue T).run P w = .ok v w) ∧ (∀ φ : Phi, LX φ z v.cells) ∧ allSc z = true := by
  obtain ⟨v, ⟨i, hi, hiz⟩, hl, hs⟩ := hY.zero T y z hy hz
  exact ⟨v, ⟨i, hi, hiz⟩, fun w => run_zeroValue hi hiz w, fun φ => ⟨hl.1, fun j x c a b => (hl.2 j x c a b).mono (fun g p h => by cases h)⟩, hs⟩

theorem foldX {cs ys : List XV} {arr us : Array Value} {off : Nat} (h : LX φ cs arr) (hu : LX φ ys us) (hfit : off + ys.length ≤ cs.length) :
    LX φ (xSplice cs off ys) (us.zipIdx.foldl (fun cs (x : Value × Nat) => cs.setIfInBounds (off + x.2) x.1) arr) := by
  obtain ⟨f1, f2⟩ := fold_get off us arr (by rw [hu.1, h.1]; exact hfit)
  refine ⟨by rw [f1, xSplice_length hfit]; exact h.1, fun j x c hx hc => ?_⟩
  rw [xSplice_get hfit] at hx
  rw [f2, hu.1] at hc
  split at hx
  · rename_i hj; rw [if_pos hj] at hc; exact hu.2 _ _ _ hx hc
  · rename_i hj; rw [if_neg hj] at hc; exact h.2 _ _ _ hx hc

theorem fillX {pl pl' : Nat → Option (Nat × Nat)} (hpl : ∀ i p, pl i = some p → pl' i = some p) : ∀ (ps : List (Nat × XV)) (qs : List (Nat × Value)) (cs out : List XV) (arr : Array Value), LX φ cs arr → allSc cs = true →
    qs.length = ps.length → (∀ (j i i' : Nat) (y : XV) (u : Value), ps[j]? = some (i, y) → qs[j]? = some (i', u) → i' = i ∧ VX φ y u) → xFill pl cs ps = some out →
    ∃ arr', Instr.fill pl' arr qs = some arr' ∧ LX φ out arr' ∧ allSc out = true
  | [], qs, cs, out, arr, hv, hs, hn, hr, hf => by
    obtain rfl : qs = [] := List.eq_nil_of_length_eq_zero hn
    cases hf
    exact ⟨arr, rfl, hv, hs⟩
  | (i, y) :: ps, [], cs, out, arr, hv, hs, hn, hr, hf => by simp at hn
  | (i, y) :: ps, (i', u) :: qs, cs, out, arr, hv, hs, hn, hr, hf => by
    obtain ⟨rfl, hyu⟩ := hr 0 i i' y u rfl rfl
    unfold xFill at hf
    unfold Instr.fill
    cases hp : pl i' with
    | none => rw [hp] at hf; cases hf
    | some os =>
      obtain ⟨off, size⟩ := os
      rw [hp] at hf
      rw [hpl _ _ hp]
      simp only at hf ⊢
      split at hf
      · rename_i hc
        obtain ⟨h1, h2, h3⟩ := hc
        obtain ⟨c1, _⟩ := hyu.cells h1
        have hfit : off + y.cells.length ≤ cs.length := by omega
        rw [if_neg (by rw [c1.1, h2, hv.1]; simp; omega)]
        exact fillX hpl ps qs _ out _ (foldX hv c1 hfit) (allSc_of fun x hx => (xSplice_mem hx).elim (allSc_mem hs x) (allSc_mem h1 x)) (by simpa using hn)
          (fun j a b c d e f => hr (j + 1) a b c d (by simpa using e) (by simpa using f)) hf
      · cases hf

theorem xParts_ok {a : Act} (hS : SR φ S a.tmps) : ∀ (l : List (Nat × Operand)) {ps : List (Nat × XV)}, xParts S l = some ps →
    (l.map fun x => (x.1, a.eval x.2)).length = ps.length ∧ ∀ (j i i' : Nat) (y : XV) (u : Value), ps[j]? = some (i, y) → (l.map fun x => (x.1, a.eval x.2))[j]? = some (i', u) → i' = i ∧ VX φ y u
  | [], ps, h => by cases h; exact ⟨rfl, by simp⟩
  | (i, x) :: l, ps, h => by
    unfold xParts at h
    split at h
    · rename_i y ys hy hys
      cases h
      obtain ⟨h1, h2⟩ := xParts_ok hS l hys
      refine ⟨by simp only [List.map_cons, List.length_cons, h1], fun j a b c d e f => ?_⟩
      cases j with
      | zero =>
        simp only [List.map_cons, List.getElem?_cons_zero, Option.some.injEq, Prod.mk.injEq] at e f
        obtain ⟨rfl, rfl⟩ := e
        obtain ⟨rfl, rfl⟩ := f
        exact ⟨rfl, ev_ok hS hy⟩
      | succ j =>
        simp only [List.map_cons, List.getElem?_cons_succ] at e f
        exact h2 j a b c d e f
    · cases h

theorem xBuild_ok (hY : YOK2 P Y) {a : Act} (hS : SR φ S a.tmps) {T : TypeId} {parts : Array (Nat × Operand)} {r : XV} (h : xBuild Y S T parts.toList = some r) :
    ∃ u, (Instr.build T (parts.map fun (i, x) => (i, a.eval x))).run P w = .ok u w ∧ VX φ r u := by
  unfold xBuild at h
  split at h
  · rename_i y pl ps hy hpl hps
    split at h
    · rename_i htold
      split at h
      · rename_i z hz
        split at h
        · rename_i out hf
          cases h
          obtain ⟨v, ⟨ti, hti, htz⟩, _, hzl, hzs⟩ := hY.zv hy hz
          obtain ⟨q1, q2⟩ := xParts_ok hS parts.toList hps
          have hq : (parts.map fun (i, x) => (i, a.eval x)).toList = parts.toList.map fun x => (x.1, a.eval x.2) := by simp
          have hT := hY.d hy
          -- the model's own places
          have key : ∃ pl', (∀ i p, pl i = some p → pl' i = some p) ∧ ∀ arr, Instr.fill pl' v.cells (parts.toList.map fun x => (x.1, a.eval x.2)) = some arr → P.built T (parts.map fun (i, x) => (i, a.eval x)).toList = some arr := by
            unfold xPlaces at hpl
            rw [hy] at hpl
            unfold xTold at htold
            rw [hy] at htold
            simp only at hpl htold
            split at hpl
            · rename_i fields e
              cases hpl
              rw [e] at htold hT
              simp only [List.all_eq_true] at htold
              have hm : ∃ ps, fields.toList.mapM (fun f => (P.info? f.type).map fun i => (f.offset, i.size)) = some ps ∧ ∀ (i : Nat) (f : Field) (yf : TY), fields.toList[i]? = some f → Y f.type = some yf → ps[i]? = some (f.offset, yf.c) := by
                have : ∀ l : List Field, (∀ f ∈ l, (Y f.type).isSome = true) → ∃ ps, l.mapM (fun f => (P.info? f.type).map fun i => (f.offset, i.size)) = some ps ∧ ∀ (i : Nat) (f : Field) (yf : TY), l[i]? = some f → Y f.type = some yf → ps[i]? = some (f.offset, yf.c) := by
                  intro l
                  induction l with
                  | nil => intro _; exact ⟨[], rfl, by simp⟩
                  | cons f l ih =>
                    intro hl
                    obtain ⟨ps, hps, hi⟩ := ih fun g hg => hl g (by simp [hg])
                    obtain ⟨yf, hyf⟩ := Option.isSome_iff_exists.1 (hl f (by simp))
                    obtain ⟨j, hj⟩ := hY.info hyf
                    refine ⟨(f.offset, j.size) :: ps, by rw [List.mapM_cons, hj]; simp [hps], fun i g yg hg hyg => ?_⟩
                    cases i with
                    | zero =>
                      simp at hg; subst hg
                      rw [hyf] at hyg; cases hyg
                      rw [← hY.c hyf, cellsOf_eq hj]; rfl
                    | succ i => simp at hg; simpa using hi i g yg hg hyg
                exact this fields.toList htold
              obtain ⟨ps', hps', hat⟩ := hm
              refine ⟨fun i => ps'[i]?, fun i p hp => ?_, fun arr harr => ?_⟩
              · simp only at hp
                split at hp
                · rename_i f hf'
                  split at hp
                  · rename_i yf hyf
                    cases hp
                    exact hat i f yf (by simpa using hf') hyf
                  · cases hp
                · cases hp
              · unfold Program.built
                rw [hti, hq]
                simp only [hT, htz, hps']
                rw [← harr]
                congr 1
                funext i
                simp
            · rename_i n e ed
              rw [ed] at hT
              split at hpl
              · rename_i ye hye
                cases hpl
                obtain ⟨ie, hie⟩ := hY.info hye
                have hsz : ie.size = ye.c := by rw [← cellsOf_eq hie, hY.c hye]
                refine ⟨fun i => some (i * ye.c, ye.c), fun i p hp => hp, fun arr harr => ?_⟩
                unfold Program.built
                rw [hti, hq]
                simp only [hT, htz, hie, hsz]
                exact harr
              · cases hpl
            · cases hpl
          obtain ⟨pl', hpp, hbuilt⟩ := key
          obtain ⟨arr, hfill, hlo, hso⟩ := fillX hpp ps _ z out v.cells (hzl φ) hzs q1 q2 hf
          exact ⟨.agg arr, run_build w T _ arr (hbuilt arr hfill), .agg (allSc_mem hso) hlo.1 hlo.2⟩
        · cases h
      · cases h
    · cases h
  · cases h

theorem reps_length (z : List XV) (n : Nat) : (reps z n).length = n * z.length := by
  induction n with
  | zero => simp [reps]
  | succ n ih => simp only [reps, List.length_append, ih, Nat.succ_mul]; omega
theorem reps_get {z : List XV} : ∀ (n j : Nat), j < n * z.length → (reps z n)[j]? = z[j % z.length]?
  | 0, j, h => by simp at h
  | n + 1, j, h => by
    unfold reps
    by_cases hj : j < z.length
    · rw [List.getElem?_append_left hj, Nat.mod_eq_of_lt hj]
    · rw [List.getElem?_append_right (by omega), reps_get n (j - z.length) (by rw [Nat.succ_mul] at h; omega)]
      congr 1
      conv => rhs; rw [show j = (j - z.length) + z.length by omega, Nat.add_mod_right]
theorem reps_mem {z : List XV} {n : Nat} {x : XV} (h : x ∈ reps z n) : x ∈ z := by
  induction n with
  | zero => simp [reps] at h
  | succ n ih => unfold reps at h; rcases List.mem_append.1 h with h | h; exact h; exact ih h
/-- zeros, as the model writes them -/
theorem LX.zeros {z : List XV} {zc : Array Value} (h : LX φ z zc) (hz : z.length ≠ 0) (n c : Nat) (hc : c = z.length) :
    LX φ (reps z n) ((Array.range (n * c)).map (zc[· % zc.size]!)) := by
  subst hc
  refine ⟨by simp [reps_length], fun j x v hx hv => ?_⟩
  have hj : j < n * z.length := by rw [← reps_length]; exact getElem?_lt hx
  rw [reps_get n j hj] at hx
  rw [Array.getElem?_map, Array.getElem?_range, if_pos hj] at hv
  simp only [Option.map_some, Option.some.injEq] at hv
  have hlt : j % zc.size < zc.size := Nat.mod_lt _ (by rw [h.1]; omega)
  rw [getElem!_pos zc _ hlt] at hv
  exact h.2 _ x v hx (by rw [← h.1]; rw [← hv]; simp [hlt])
end
end Go.Proofs.YtcmaledchnhccaaGreatDoor

/-! That the executor follows the model: rows that are made and cut. No condition. -/
namespace Go.Proofs.YtcmaledchnhccaaGreatDoor
open Go Go.RowKit

section
variable {P : Program} {φ : Phi} {w0 w : World} {M M' : Mem} {S : Tr XV} {Y : TYS}

theorem xBuildSlice_ok (hY : YOK2 P Y) (R : MR P φ w0 M w) {a : Act} (hS : SR φ S a.tmps) {T : TypeId} {len : Nat} {parts : Array (Nat × Operand)} {r : XV} (h : xBuildSlice Y S M T len parts.toList = some (r, M')) :
    ∃ φ' u w', (Instr.buildSlice T len (parts.map fun (i, x) => (i, a.eval x))).run P w = .ok u w' ∧ VX φ' r u ∧ φ.le φ' ∧ MR P φ' w0 M' w' := by
  unfold xBuildSlice at h
  split at h
  · rename_i y hy
    have hT := hY.d hy
    split at h
    · rename_i e ed
      rw [ed] at hT
      split at h
      · rename_i ye ps hye hps
        split at h
        · rename_i z hz
          split at h
          · rename_i hc
            obtain ⟨hbig, hzl, hc0⟩ := hc
            split at h
            · rename_i cs hf
              split at h
              · rename_i r0 M1 hn
                cases h
                obtain ⟨v, _, hzv, hzx, hzs⟩ := hY.zv hye hz
                obtain ⟨q1, q2⟩ := xParts_ok hS parts.toList hps
                have hq : (parts.map fun (i, x) => (i, a.eval x)).toList = parts.toList.map fun x => (x.1, a.eval x.2) := by simp
                let zc : Array Value := if len * ye.c = 0 then #[] else v.cells
                have h0 : LX φ (reps z len) ((Array.range (len * ye.c)).map (zc[· % zc.size]!)) := by
                  by_cases hl : len * ye.c = 0
                  · have hlen : len = 0 := by rcases Nat.mul_eq_zero.1 hl with h | h; exact h; exact absurd h hc0
                    subst hlen
                    exact ⟨by simp [reps], fun j x c hx => by simp [reps] at hx⟩
                  · have hzc : zc = v.cells := if_neg hl
                    rw [hzc]
                    exact LX.zeros (hzx φ) (by omega) len ye.c hzl.symm
                obtain ⟨arr, hfill, hlo, hso⟩ := fillX (fun i p hp => hp) ps _ (reps z len) cs _ h0 (allSc_of fun x hx => allSc_mem hzs x (reps_mem hx)) q1 q2 hf
                obtain ⟨hr0, hle, R'⟩ := xNew_ok R (T := e) hlo hn
                refine ⟨_, .slice (some ⟨w.heap.size, 0, none⟩) len len, _, ?_, .sl (Phi.ext_self _ _ _) (Nat.le_refl _), hle, R'⟩
                unfold Instr.buildSlice
                rw [run_bind_ok (run_underlying hT w)]
                show ((Go.sizeOf e >>= fun size => _) : Sem Value).run P w = _
                rw [run_bind_ok (hY.sizeOf hye w), if_neg (by omega)]
                by_cases hl : len * ye.c = 0
                · have hzc : zc = #[] := if_pos hl
                  rw [hzc] at hfill
                  rw [if_pos hl, run_bind_ok (run_pure _ w), hq]
                  simp only [hfill]
                  rfl
                · have hzc : zc = v.cells := if_neg hl
                  rw [hzc] at hfill
                  rw [if_neg hl, run_bind_ok (hzv w), run_bind_ok (run_pure _ w), hq]
                  simp only [hfill]
                  rfl
              · cases h
            · cases h
          · cases h
        · cases h
      · cases h
    · cases h
  · cases h

theorem xMake_ok (hY : YOK2 P Y) (R : MR P φ w0 M w) {T : TypeId} {l c r : XV} {lv cv : Value} (hl : VX φ l lv) (hc : VX φ c cv) (h : xMake Y M T l c = some (r, M')) :
    ∃ φ' u w', (Instr.makeSlice T lv cv).run P w = .ok u w' ∧ VX φ' r u ∧ φ.le φ' ∧ MR P φ' w0 M' w' := by
  unfold xMake at h
  split at h
  · rename_i y l c hy
    cases VX_int hl; cases VX_int hc
    have hT := hY.d hy
    split at h
    · rename_i e ed
      rw [ed] at hT
      split at h
      · rename_i ye hye
        split at h
        · rename_i z hz
          split at h
          · rename_i hc
            obtain ⟨h0, hlc, hb, hcm, hzl, hc0⟩ := hc
            split at h
            · rename_i r0 M1 hn
              cases h
              obtain ⟨v, _, hzv, hzx, hzs⟩ := hY.zv hye hz
              obtain ⟨i, hi⟩ := hY.info hye
              let zc : Array Value := if c.toNat * ye.c = 0 then #[] else v.cells
              have hrow : LX φ (reps z c.toNat) ((Array.range (c.toNat * ye.c)).map (zc[· % zc.size]!)) := by
                by_cases hl : c.toNat * ye.c = 0
                · have hlen : c.toNat = 0 := by rcases Nat.mul_eq_zero.1 hl with h | h; exact h; exact absurd h hc0
                  rw [hlen]
                  exact ⟨by simp [reps], fun j x c hx => by simp [reps] at hx⟩
                · have hzc : zc = v.cells := if_neg hl
                  rw [hzc]
                  exact LX.zeros (hzx φ) (by omega) _ ye.c hzl.symm
              obtain ⟨hr0, hle, R'⟩ := xNew_ok R (T := e) hrow hn
              refine ⟨_, .slice (some ⟨w.heap.size, 0, none⟩) l.toNat c.toNat, _, ?_, .sl (Phi.ext_self _ _ _) (by omega), hle, R'⟩
              unfold Instr.makeSlice
              rw [run_bind_ok (run_underlying hT w)]
              show ((asInt (.int .i64 l) >>= fun len => asInt (.int .i64 c) >>= fun cap => _) : Sem Value).run P w = _
              rw [run_bind_ok (show (asInt (.int .i64 l)).run P w = .ok l w from rfl), run_bind_ok (show (asInt (.int .i64 c)).run P w = .ok c w from rfl), run_bind_ok (run_typeInfo hi w)]
              have hby : i.bytes = ye.b := by rw [← hY.b hye, bytesOf_eq hi]
              have hwl := wrap64_id h0 (by omega : l ≤ 140737488355328)
              have hwc := wrap64_id (by omega : 0 ≤ c) hcm
              have hask : (askRoom (c.toNat * i.bytes)).run P w = .ok () w := by
                unfold askRoom roomBytes
                split
                · rfl
                · rfl
              simp only [hwl, hwc]
              have hcond : (decide (c < 0) || decide ((i.bytes : Int) * c > 2 ^ 48) || decide (l < 0) || decide (l > c)) = false := by
                have : ¬ ((i.bytes : Int) * c > 2 ^ 48) := by rw [hby, Int.mul_comm]; omega
                simp only [Bool.or_eq_false_iff, decide_eq_false_iff_not]
                omega
              rw [if_neg (by
                simp only [Bool.or_eq_true, decide_eq_true_eq]
                simp only [Bool.or_eq_false_iff, decide_eq_false_iff_not] at hcond
                omega)]
              rw [run_bind_ok hask, run_bind_ok (hY.sizeOf hye w)]
              by_cases hn0 : c.toNat * ye.c = 0
              · have hz0 : zc = #[] := if_pos hn0
                rw [if_pos hn0, run_bind_ok (run_pure _ w), hz0]
                rfl
              · have hz0 : zc = v.cells := if_neg hn0
                rw [if_neg hn0, run_bind_ok (hzv w), run_bind_ok (run_pure _ w), hz0]
                rfl
            · cases h
          · cases h
        · cases h
      · cases h
    · cases h
  · cases h

/-! ### slices -/
theorem xBnd_none {S : Tr XV} {x : Option Operand} {d m n : Nat} (h : xBnd S x d m = some n) (hx : x = none) : n = d := by subst hx; cases h; rfl
theorem xBnd_some {a : Act} (hS : SR φ S a.tmps) {x : Operand} {d m n : Nat} (h : xBnd S (some x) d m = some n) : ∃ k, a.eval x = .int k (n : Int) ∧ n ≤ m := by
  unfold xBnd at h
  simp only at h
  split at h
  · rename_i k i he
    split at h
    · rename_i hc
      cases h
      refine ⟨k, ?_, by omega⟩
      rw [VX_int (ev_ok hS he)]
      congr 1; omega
    · cases h
  · cases h
theorem xBnd_le {a : Act} (hS : SR φ S a.tmps) {x : Option Operand} {d m n : Nat} (h : xBnd S x d m = some n) (hd : d ≤ m) : n ≤ m := by
  cases x with
  | none => cases h; exact hd
  | some x => obtain ⟨k, _, h⟩ := xBnd_some hS h; exact h

theorem run_sliceBound {k : IntKind} {n m : Nat} {b : BoundsCode} (h : n ≤ m) : (Instr.sliceBound (.int k (n : Int)) m b).run P w = .ok n w := by
  unfold Instr.sliceBound
  simp [asIntOf, h]

theorem run_bounds {a : Act} (hS : SR φ S a.tmps) {isS : Bool} {len cap : Nat} {lo hi mx : Option Operand} {l r m : Nat} (hm : xBnd S mx cap cap = some m) (hh : xBnd S hi len m = some r) (hl : xBnd S lo 0 r = some l) (hmh : mx ≠ none → hi ≠ none) :
    (Instr.sliceBounds isS len cap (lo.map a.eval) (hi.map a.eval) (mx.map a.eval)).run P w = .ok (l, r, m) w := by
  unfold Instr.sliceBounds
  have pz : ∀ n : Nat, (pure n : Sem Nat).run P w = .ok n w := fun n => rfl
  have lo' : ∀ c : BoundsCode, ∀ (f : Nat → Sem (Nat × Nat × Nat)), (∀ l', l' = l → (f l').run P w = .ok (l, r, m) w) → (match lo.map a.eval with
    | some v => Instr.sliceBound v r c >>= f
    | none => (pure 0 : Sem Nat) >>= f).run P w = .ok (l, r, m) w := by
    intro c f hf
    cases lo with
    | none => cases hl; exact (run_bind_ok (pz 0)).trans (hf 0 rfl)
    | some x =>
      obtain ⟨k, he, hle⟩ := xBnd_some hS hl
      simp only [Option.map_some, he]
      exact (run_bind_ok (run_sliceBound hle)).trans (hf l rfl)
  cases mx with
  | none =>
    cases hm
    refine (run_bind_ok (pz _)).trans ?_
    cases hi with
    | none =>
      cases hh
      refine (run_bind_ok (pz _)).trans ?_
      exact lo' _ _ fun l' h => by subst h; rfl
    | some x =>
      obtain ⟨k, he, hle⟩ := xBnd_some hS hh
      simp only [Option.map_some, Option.map_none, he]
      refine (run_bind_ok (run_sliceBound hle)).trans ?_
      exact lo' _ _ fun l' h => by subst h; rfl
  | some y =>
    obtain ⟨k0, he0, hle0⟩ := xBnd_some hS hm
    simp only [Option.map_some, he0]
    refine (run_bind_ok (run_sliceBound hle0)).trans ?_
    cases hi with
    | none => exact absurd rfl (hmh (by simp))
    | some x =>
      obtain ⟨k, he, hle⟩ := xBnd_some hS hh
      simp only [Option.map_some, he]
      refine (run_bind_ok (run_sliceBound hle)).trans ?_
      exact lo' _ _ fun l' h => by subst h; rfl
end
end Go.Proofs.YtcmaledchnhccaaGreatDoor

/-! That the executor follows the model: slices cut, the cells of a row, bytes. No condition. -/
namespace Go.Proofs.YtcmaledchnhccaaGreatDoor
open Go Go.RowKit

section
variable {P : Program} {φ : Phi} {w0 w : World} {M M' : Mem} {S : Tr XV} {Y : TYS}

theorem xBnd_mono {x : Option Operand} {d m m' n : Nat} (h : xBnd S x d m = some n) (hm : m ≤ m') : xBnd S x d m' = some n := by
  cases x with
  | none => exact h
  | some x =>
    unfold xBnd at h ⊢
    simp only at h ⊢
    split at h
    · rename_i k i he
      split at h
      · rename_i hc; rw [if_pos (by omega)]; exact h
      · cases h
    · cases h

theorem run_sliceAt {e : TypeId} {a : Act} (hS : SR φ S a.tmps) (hY : YOK2 P Y) {T : TypeId} {ye : TY} (hT : P.underlying T = some (.slice e)) (hye : Y e = some ye) {ad : Option Addr} {len cap l r m : Nat} {lo hi mx : Option Operand}
    (hm : xBnd S mx cap cap = some m) (hh : xBnd S hi len m = some r) (hl : xBnd S lo 0 r = some l) (hmh : mx ≠ none → hi ≠ none) :
    (Instr.sliceAt T (.slice ad len cap) (lo.map a.eval) (hi.map a.eval) (mx.map a.eval)).run P w = .ok (.slice (if m = l then ad else ad.map (·.add (l * ye.c))) (r - l) (m - l)) w := by
  unfold Instr.sliceAt
  rw [run_bind_ok (run_underlying hT w)]
  show (Instr.slice T _ _ _ _).run P w = _
  unfold Instr.slice
  rw [run_bind_ok (run_underlying hT w)]
  show ((Instr.sliceBounds true len cap _ _ _ >>= fun b => _) : Sem Value).run P w = _
  rw [run_bind_ok (run_bounds hS hm hh hl hmh)]
  show ((Go.sizeOf e >>= fun size => _) : Sem Value).run P w = _
  rw [run_bind_ok (hY.sizeOf hye w)]
  rfl

theorem xSlice_ok (hY : YOK2 P Y) {a : Act} (hS : SR φ S a.tmps) {T : TypeId} {x r : XV} {lo hi mx : Option Operand} {v : Value} (hx : VX φ x v) (h : xSlice Y S T x lo hi mx = some r) :
    ∃ u, (Instr.sliceAt T v (lo.map a.eval) (hi.map a.eval) (mx.map a.eval)).run P w = .ok u w ∧ VX φ r u := by
  unfold xSlice at h
  split at h
  · cases h
  rename_i y hy
  have hT := hY.d hy
  split at h
  · -- a text
    rename_i l ed
    rw [ed] at hT
    split at h
    · rename_i hr hhi
      split at h
      · rename_i al hlo
        cases h
        obtain ⟨s, rfl, rfl⟩ := VX_str hx
        have hsz : s.size = s.data.toList.length := by show s.data.size = _; rw [Array.length_toList]
        have hb := run_bounds (P := P) (w := w) hS (isS := false) (mx := none) (len := s.size) (cap := s.size) (lo := lo) (hi := hi) rfl (by rw [hsz]; exact hhi) hlo (fun h => absurd rfl h)
        have hle := xBnd_le hS hhi (Nat.le_refl _)
        refine ⟨.string (s.extract al hr), ?_, VX.str' _ ?_⟩
        · unfold Instr.sliceAt
          rw [run_bind_ok (run_underlying hT w)]
          show (Instr.slice T _ _ _ _).run P w = _
          unfold Instr.slice
          rw [run_bind_ok (run_underlying hT w)]
          show ((if _ then _ else Instr.sliceBounds false s.size s.size _ _ none >>= fun b => _) : Sem Value).run P w = _
          rw [if_neg (by simp)]
          refine (run_bind_ok hb).trans ?_
          rfl
        · rw [ByteArray.data_extract, Array.toList_extract, List.extract_eq_take_drop]
      · cases h
    · cases h
  · rename_i e g o len cap ed
    rw [ed] at hT
    split at h
    · rename_i ye m hye hmx
      have main : (mx ≠ none → hi ≠ none) → (match xBnd S hi len m with
          | some h => (match xBnd S lo 0 h with
            | some a => if ye.c = 0 then none else some (.sl g (if m = a then o else o + a * ye.c) (h - a) (m - a))
            | none => none)
          | none => none) = some r → ∃ u, (Instr.sliceAt T v (lo.map a.eval) (hi.map a.eval) (mx.map a.eval)).run P w = .ok u w ∧ VX φ r u := by
        intro hmh h
        split at h
        · rename_i hr hhi
          split at h
          · rename_i al hlo
            split at h
            · cases h
            · cases h
              obtain ⟨p, hp, hle, rfl⟩ := VX_sl hx
              refine ⟨_, run_sliceAt hS hY hT hye hmx hhi hlo hmh, ?_⟩
              have h3 := xBnd_le hS hmx (Nat.le_refl _)
              have hrm : hr ≤ m := by
                cases hi with
                | none =>
                  cases mx with
                  | none => cases hhi; cases hmx; exact hle
                  | some q => exact absurd rfl (hmh (by simp))
                | some q => obtain ⟨_, _, h⟩ := xBnd_some hS hhi; exact h
              by_cases hma : m = al
              · rw [if_pos hma, if_pos hma]; exact .sl hp (by omega)
              · rw [if_neg hma, if_neg hma]
                simp only [Option.map_some, addr_add]
                exact .sl hp (by omega)
          · cases h
        · cases h
      split at h
      · cases h
      · rename_i h1
        exact main (fun hmx hhi => by
          cases hm : mx with
          | none => exact hmx hm
          | some q => exact h1 q hm hhi) h
    · cases h
  · rename_i e g a0 s len ed
    rw [ed] at hT
    split at h
    · rename_i ye hye
      split at h
      · rename_i hs
        obtain ⟨rfl, hs0⟩ := hs
        obtain ⟨p, hp, hle, rfl⟩ := VX_so hx
        split at h
        · split at h
          · rename_i hr hhi
            split at h
            · rename_i al hlo
              have hrl := xBnd_le hS hhi (Nat.le_refl _)
              have hrun := run_sliceAt (w := w) (ad := some ⟨p.1, a0 * ye.c, none⟩) (mx := none) hS hY hT hye rfl (xBnd_mono (m' := p.2 - a0) hhi (by omega)) hlo (fun h => absurd rfl h)
              refine ⟨_, hrun, ?_⟩
              split at h
              · rename_i ha
                cases h
                subst ha
                have : (if p.2 - a0 = 0 then (some ⟨p.1, a0 * ye.c, none⟩ : Option Addr) else (some ⟨p.1, a0 * ye.c, none⟩ : Option Addr).map (·.add (0 * ye.c))) = some ⟨p.1, a0 * ye.c, none⟩ := by
                  split
                  · rfl
                  · simp only [Option.map_some, addr_add, Nat.zero_mul, Nat.add_zero]
                rw [this]
                exact .so hp (by omega)
              · split at h
                · rename_i ha hlt
                  cases h
                  rw [if_neg (by omega)]
                  simp only [Option.map_some, addr_add]
                  have e1 : a0 * ye.c + al * ye.c = (a0 + al) * ye.c := by rw [Nat.add_mul]
                  have e2 : p.2 - a0 - al = p.2 - (a0 + al) := by omega
                  rw [e1, e2]
                  exact .so hp (by omega)
                · cases h
            · cases h
          · cases h
        · rename_i mo
          split at h
          · rename_i m ho hmx
            split at h
            · rename_i hr hhi
              split at h
              · rename_i al hlo
                cases h
                have hml : m ≤ len := by obtain ⟨_, _, h⟩ := xBnd_some hS hmx; exact h
                have hrm : hr ≤ m := by obtain ⟨_, _, h⟩ := xBnd_some hS hhi; exact h
                have hal := xBnd_le hS hlo (Nat.zero_le _)
                have hmx' : xBnd S (some mo) (p.2 - a0) (p.2 - a0) = some m := xBnd_mono (x := some mo) (d := 0) hmx (by omega)
                have hrun := run_sliceAt (w := w) (ad := some ⟨p.1, a0 * ye.c, none⟩) (len := len) hS hY hT hye hmx' (show xBnd S (some ho) len m = some hr from hhi) hlo (fun _ => by simp)
                refine ⟨_, hrun, ?_⟩
                by_cases hma : m = al
                · rw [if_pos hma, if_pos hma]; exact .sl hp (by omega)
                · rw [if_neg hma, if_neg hma]
                  simp only [Option.map_some, addr_add]
                  rw [← Nat.add_mul]
                  exact .sl hp (by omega)
              · cases h
            · cases h
          · cases h
      · cases h
    · cases h
  · rename_i e ed
    rw [ed] at hT
    split at h
    · rename_i ye m hr al hye hmx hhi hlo
      have hm0 := xBnd_le hS hmx (Nat.le_refl _)
      have hr0 := xBnd_le hS hhi (Nat.le_refl _)
      have hl0 := xBnd_le hS hlo (Nat.le_refl _)
      obtain rfl : m = 0 := by omega
      obtain rfl : hr = 0 := by omega
      obtain rfl : al = 0 := by omega
      cases VX_nils hx
      have main : (mx ≠ none → hi ≠ none) → ∃ u, (Instr.sliceAt T (.slice none 0 0) (lo.map a.eval) (hi.map a.eval) (mx.map a.eval)).run P w = .ok u w ∧ VX φ .nils u := by
        intro hmh
        have hrun := run_sliceAt (w := w) (ad := none) (len := 0) hS hY hT hye hmx hhi hlo hmh
        exact ⟨_, hrun, .nils⟩
      split at h
      · cases h
      · rename_i h1
        cases h
        exact main (fun hmx hhi => by
          cases hm : mx with
          | none => exact hmx hm
          | some q => exact h1 q hm hhi)
    · cases h
  · cases h
end
end Go.Proofs.YtcmaledchnhccaaGreatDoor

/-! That the executor follows the model: appends, copies, bytes that become a text. No condition. -/
namespace Go.Proofs.YtcmaledchnhccaaGreatDoor
open Go Go.RowKit

section
variable {P : Program} {φ : Phi} {w0 w : World} {M M' : Mem} {S : Tr XV} {Y : TYS}

/-- what is appended, or copied -/
structure Src (P : Program) (w : World) (s : Nat) (y : Value) (n : Nat) (news : List Value) : Prop where
  len : ∀ w', (Builtin.lenOf y).run P w' = .ok n w'
  first : ∀ w', w'.heap = w.heap → ∀ k, k ≤ n → (Builtin.firstCells s k y).run P w' = .ok (news.take (k * s)).toArray w'
  one : ∀ u ∈ news, u.oneCell' = true
  num : news.length = n * s

theorem Src.all {s n : Nat} {y : Value} {news : List Value} (h : Src P w s y n news) {w' : World} (hw : w'.heap = w.heap) : (Builtin.firstCells s n y).run P w' = .ok news.toArray w' := by
  rw [h.first w' hw n (Nat.le_refl _), List.take_of_length_le (by rw [h.num]; exact Nat.le_refl _)]

theorem xBytes_ok (b : ByteArray) : LX φ (xBytes b.data.toList) (b.data.map fun b => Value.int .u8 b.toNat) := by
  refine ⟨by simp [xBytes], fun j x c hx hc => ?_⟩
  unfold xBytes at hx
  rw [List.getElem?_map] at hx
  rw [Array.getElem?_map] at hc
  rw [Array.getElem?_toList] at hx
  cases hb : b.data[j]? with
  | none => rw [hb] at hx; cases hx
  | some u =>
    rw [hb] at hx hc
    cases hx; cases hc
    exact .int _ _

theorem xRow_ok (R : MR P φ w0 M w) {s n : Nat} {x : XV} {v : Value} {cs : List XV} (hx : VX φ x v) (h : xRow M s x = some (n, cs)) : ∃ news : List Value, Src P w s v n news ∧ LX φ cs news.toArray ∧ ∀ x ∈ cs, x.sc = true := by
  -- a row in memory
  have mem : ∀ (g o len cap : Nat) (p : Nat × Nat) (b : Blk), φ g = some p → M.t.get g = some b → o + len * s ≤ b.cells.length → v = .slice (some ⟨p.1, o, none⟩) len cap →
      ∃ news : List Value, Src P w s v len news ∧ LX φ ((b.cells.drop o).take (len * s)) news.toArray ∧ ∀ x ∈ (b.cells.drop o).take (len * s), x.sc = true := by
    intro g o len cap p b hp hb hfit hv
    subst hv
    obtain ⟨q, cur, hq, hlo, hh, hL⟩ := R.lies hb
    rw [hp] at hq; cases hq
    obtain ⟨l1, l2⟩ := hL.sub hfit
    have hsz := hL.len
    have hl : (cur.extract o (o + len * s)).toList.length = len * s := by simp; omega
    refine ⟨(cur.extract o (o + len * s)).toList, ⟨fun w' => rfl, fun w' hw' k hk => ?_, fun u hu => ?_, hl⟩, by rw [Array.toArray_toList]; exact l1, l2⟩
    · show (loadCells ⟨p.1, o, none⟩ (k * s)).run P w' = _
      have hks := Nat.mul_le_mul_right s hk
      rw [run_loadCells_at (by rw [hw']; exact hh) (k * s) (by omega)]
      congr 1
      apply Array.ext'
      rw [List.toList_toArray, Array.toList_extract, Array.toList_extract, List.extract_eq_take_drop, List.extract_eq_take_drop, List.take_take]
      congr 1
      omega
    · obtain ⟨j, hj⟩ := List.getElem?_of_mem hu
      have hjl : j < ((b.cells.drop o).take (len * s)).length := by rw [← l1.1]; have := getElem?_lt hj; simp at this ⊢; omega
      rw [Array.getElem?_toList] at hj
      exact (l1.2 j _ u (List.getElem?_eq_getElem hjl) hj).one (l2 _ (List.getElem_mem hjl))
  unfold xRow at h
  split at h
  · cases h
    cases VX_nils hx
    exact ⟨[], ⟨fun w' => rfl, fun w' _ k hk => by simp [Builtin.firstCells], by simp, by simp⟩, ⟨rfl, by simp⟩, by simp⟩
  · rename_i g o len cap
    split at h
    · rename_i b hb
      split at h
      · rename_i hc
        cases h
        obtain ⟨p, hp, _, hv⟩ := VX_sl hx
        exact mem g o _ _ p b hp hb hc hv
      · cases h
    · cases h
  · rename_i g a s' len
    split at h
    · rename_i b hb
      split at h
      · rename_i hc
        obtain ⟨rfl, hc⟩ := hc
        cases h
        obtain ⟨p, hp, _, hv⟩ := VX_so hx
        exact mem g _ _ _ p b hp hb hc hv
      · cases h
    · cases h
  · split at h
    · rename_i l hs
      subst hs
      cases h
      obtain ⟨b, rfl, rfl⟩ := VX_str hx
      have hbs : b.size = b.data.toList.length := by show b.data.size = _; rw [Array.length_toList]
      refine ⟨(b.data.map fun b => Value.int .u8 b.toNat).toList, ⟨fun w' => ?_, fun w' _ k hk => ?_, fun u hu => ?_, by simp⟩, by rw [Array.toArray_toList]; exact xBytes_ok b, fun x hx => ?_⟩
      · rw [← hbs]; rfl
      · simp only [Builtin.firstCells]
        show Result.ok _ w' = _
        congr 1
        apply Array.ext'
        rw [List.toList_toArray, ByteArray.data_extract]
        simp
      · rw [Array.toList_map, List.mem_map] at hu
        obtain ⟨c, _, rfl⟩ := hu
        rfl
      · unfold xBytes at hx
        obtain ⟨c, _, rfl⟩ := List.mem_map.1 hx
        rfl
    · cases h
  · cases h

/-- the second type of an append is no number's -/
def srcT (P : Program) (T : TypeId) : Prop := (∃ e, P.underlying T = some (.slice e)) ∨ P.underlying T = some .string

theorem run_app_room {T T2 ty e : TypeId} {c : Nat} {i : TypeInfo} (hT : P.underlying T = some (.slice e)) (h2 : srcT P T2) (hi : P.info? e = some i) (hc : i.size = c) {base : Option Addr} {sLen sCap n : Nat} {y : Value} {news : List Value}
    (hs : Src P w c y n news) (hroom : sLen + n ≤ sCap) {w' : World} (hst : (match base with
      | some a => storeCells (a.add (sLen * c)) news
      | none => pure () : Sem Unit).run P w = .ok () w') :
    (Builtin.append_ #[T, T2] ty #[.slice base sLen sCap, y]).run P w = .ok (.slice base (sLen + n) sCap) w' := by
  subst hc
  have hf := hs.all (w' := w) rfl
  have hl := hs.len w
  cases base with
  | none =>
    rcases h2 with ⟨e2, hd⟩ | hd
    all_goals
      simp [Builtin.append_, run_underlying hT, run_underlying hd, sizeOf, typeInfo, hi, hl, hroom, hf]
      simpa using hst
  | some a =>
    rcases h2 with ⟨e2, hd⟩ | hd
    all_goals
      simp [Builtin.append_, run_underlying hT, run_underlying hd, sizeOf, typeInfo, hi, hl, hroom, hf]
      simp only at hst
      rw [hst]; rfl

theorem run_app_grow {T T2 ty e : TypeId} {c : Nat} {i : TypeInfo} {z : Value} (hT : P.underlying T = some (.slice e)) (h2 : srcT P T2) (hi : P.info? e = some i) (hiz : i.zero = some z) (hc : i.size = c) {x y : Value} {base : Option Addr} {sLen sCap n : Nat} {olds news : List Value}
    (hx : x = .slice base sLen sCap) (ho : Src P w c x sLen olds) (hs : Src P w c y n news) (hg : sCap < sLen + n) (hb : (sLen + n) * i.bytes ≤ 140737488355328) (hm : sLen + n ≤ 140737488355328) :
    (Builtin.append_ #[T, T2] ty #[x, y]).run P w = .ok (.slice (some ⟨w.heap.size, 0, none⟩) (sLen + n) (grownCap w (sLen + n) sCap e))
      (w.drew.alloc (.cells ((olds ++ news).toArray ++ Builtin.zeroCells z.cells (grownCap w (sLen + n) sCap e - (sLen + n))) e)) := by
  subst hc
  have hn : ¬ (sLen + n ≤ sCap) := by omega
  have h63' : ¬ (9223372036854775807 < ((sLen : Int) + (n : Int))) := by omega
  have h48 := growslice_fits hg hb
  have h48' : ¬ (281474976710656 < Builtin.nextslicecap (sLen + n) sCap * i.bytes) := by omega
  have hf := hs.all (w' := w.drew) rfl
  have hfo := ho.all (w' := w.drew) rfl
  have hl := hs.len w
  subst hx
  rcases h2 with ⟨e2, hd⟩ | hd
  all_goals
    simp [Builtin.append_, run_underlying hT, run_underlying hd, sizeOf, typeInfo, zeroValue, hi, hiz, hl, hn, h63', h48', Question.forced, hf, hfo, newRow, grownCap]
    congr 2
    apply Array.ext'
    simp [List.append_assoc]
end
end Go.Proofs.YtcmaledchnhccaaGreatDoor

/-! That the executor follows the model: append, copy. No condition. -/
namespace Go.Proofs.YtcmaledchnhccaaGreatDoor
open Go Go.RowKit

section
variable {P : Program} {φ : Phi} {w0 w : World} {M M' : Mem} {S : Tr XV} {Y : TYS}

theorem LX.append {xs ys : List XV} {us vs : List Value} (h : LX φ xs us.toArray) (h' : LX φ ys vs.toArray) : LX φ (xs ++ ys) (us ++ vs).toArray := by
  have hn : us.length = xs.length := by have := h.1; simpa using this
  have hm : vs.length = ys.length := by have := h'.1; simpa using this
  refine ⟨by simp [hn, hm], fun j x c hx hc => ?_⟩
  rw [List.getElem?_toArray] at hc
  by_cases hj : j < xs.length
  · rw [List.getElem?_append_left hj] at hx
    rw [List.getElem?_append_left (by omega)] at hc
    exact h.2 j x c hx (by rw [List.getElem?_toArray]; exact hc)
  · rw [List.getElem?_append_right (by omega)] at hx
    rw [List.getElem?_append_right (by omega), hn] at hc
    exact h'.2 _ x c hx (by rw [List.getElem?_toArray]; exact hc)

/-- a grown row -/
theorem grown_lies {e : TypeId} {c need cap : Nat} {cells : List XV} {us : List Value} {z : Array Value} (hl : LX φ cells us.toArray) (hs : ∀ x ∈ cells, x.sc = true) (hn : us.length = need * c) (hc : P.cellsOf e = c) (hz : z.size = c)
    (hcap : need ≤ cap) (hmax : cap ≤ maxLen) : Lies P φ ⟨e, false, none, cells⟩ cap (us.toArray ++ Builtin.zeroCells z (cap - need)) := by
  have hcl : us.length = cells.length := by have := hl.1; simpa using this
  refine ⟨?_, hs, fun j x v hx hv => ?_, (fun h => by cases h), fun _ => ⟨?_, hmax⟩⟩
  · simp only [Array.size_append, List.size_toArray]; omega
  · have hj : j < us.toArray.size := by simp only [List.size_toArray]; rw [hcl]; exact getElem?_lt hx
    rw [Array.getElem?_append_left hj] at hv
    exact hl.2 j x v hx hv
  · simp only [Array.size_append, List.size_toArray, size_zeroCells, hn, hz, hc]
    rw [← Nat.add_mul]; congr 1; omega

theorem xOpen_ok (R : MR P φ w0 M w) {e : TypeId} {s len cap : Nat} {cells : List XV} {arr : Array Value} {r : XV} (hl : Lies P φ ⟨e, false, none, cells⟩ cap arr) (hc : len ≤ cap) (h : xOpen M e s len cells = some (r, M')) {w' : World}
    (hh : w'.heap = w.heap.push (.cells arr e (0, 0))) (ho : w'.os = w.os) (ht : w'.tape = w.tape) (hu : w'.output = w.output) :
    ∃ φ', VX φ' r (.slice (some ⟨w.heap.size, 0, none⟩) len cap) ∧ φ.le φ' ∧ MR P φ' w0 M' w' := by
  unfold xOpen at h
  split at h
  · rename_i M1 hM
    cases h
    refine ⟨φ.ext M.n (w.heap.size, cap), ?_, R.le_ext _, R.add rfl hl hM hh ho ht hu⟩
    have := VX.so (φ := φ.ext M.n (w.heap.size, cap)) (a := 0) (s := s) (len := len) (Phi.ext_self φ M.n (w.heap.size, cap)) (by simpa using hc)
    simpa using this
  · cases h

theorem xAppend_ok (hY : YOK2 P Y) (R : MR P φ w0 M w) {T T2 ty : TypeId} {x y r : XV} {v u : Value} (hx : VX φ x v) (hy : VX φ y u) (h2 : T2 = T ∨ P.underlying T2 = some .string) (h : xAppend Y M T x y = some (r, M')) :
    ∃ φ' z w', (Builtin.append_ #[T, T2] ty #[v, u]).run P w = .ok z w' ∧ VX φ' r z ∧ φ.le φ' ∧ MR P φ' w0 M' w' := by
  unfold xAppend at h
  split at h
  · cases h
  rename_i t ht
  have hT := hY.d ht
  split at h
  · rename_i e ed
    rw [ed] at hT
    have h2' : srcT P T2 := by
      rcases h2 with rfl | h2
      · exact .inl ⟨e, hT⟩
      · exact .inr h2
    split at h
    · rename_i ye hye
      split at h
      · rename_i z hz
        split at h
        · cases h
        · rename_i hc
          have hc0 : ye.c ≠ 0 := fun h => hc (.inl h)
          have hzl : z.length = ye.c := by
            by_cases h : z.length = ye.c
            · exact h
            · exact absurd (.inr h) hc
          obtain ⟨zv, ⟨i, hi, hiz⟩, _, hzx, _⟩ := hY.zv hye hz
          have hic : i.size = ye.c := by rw [← cellsOf_eq hi, hY.c hye]
          have hib : i.bytes = ye.b := by rw [← bytesOf_eq hi, hY.b hye]
          have hzs : zv.cells.size = ye.c := by rw [(hzx φ).1, hzl]
          split at h
          · rename_i n newsX hrow
            obtain ⟨news, hs, hnx, hnsc⟩ := xRow_ok R hy hrow
            have hnl : news.length = n * ye.c := hs.num
            have hncl : newsX.length = n * ye.c := by rw [← hnl]; have := hnx.1; simpa using this.symm
            -- a new row
            have fresh : ∀ (olds : List Value) (oldsX : List XV) (base : Option Addr) (sLen sCap : Nat), v = .slice base sLen sCap → Src P w ye.c v sLen olds → LX φ oldsX olds.toArray → (∀ x ∈ oldsX, x.sc = true) →
                sCap < sLen + n → (sLen + n) * ye.b ≤ 140737488355328 → sLen + n ≤ 140737488355328 → xOpen M e ye.c (sLen + n) (oldsX ++ newsX) = some (r, M') →
                ∃ φ' z w', (Builtin.append_ #[T, T2] ty #[v, u]).run P w = .ok z w' ∧ VX φ' r z ∧ φ.le φ' ∧ MR P φ' w0 M' w' := by
              intro olds oldsX base sLen sCap hv ho hox hosc hg hb hm hopen
              have hrun := run_app_grow (ty := ty) hT h2' hi hiz hic hv ho hs hg (by rw [hib]; exact hb) hm
              have hcap := grownCap_ge w (sLen + n) sCap e
              have hmax := grownCap_le_maxLen w (sLen + n) sCap e (by simp only [maxLen]; omega)
              have hl := grown_lies (P := P) (e := e) (hox.append hnx) (fun x hx => (List.mem_append.1 hx).elim (hosc x) (hnsc x)) (need := sLen + n) (by rw [List.length_append, ho.num, hnl, Nat.add_mul]) (hY.c hye) hzs hcap hmax
              obtain ⟨φ', h1, h2, h3⟩ := xOpen_ok R hl hcap hopen (w' := w.drew.alloc _) rfl rfl rfl rfl
              exact ⟨φ', _, _, hrun, h1, h2, h3⟩
            split at h
            · -- nil
              cases VX_nils hx
              split at h
              · rename_i h0
                cases h
                subst h0
                exact ⟨φ, _, w, run_app_room (base := none) hT h2' hi hic hs (Nat.le_refl _) rfl, .nils, Phi.le_refl _, R⟩
              · rename_i h0
                split at h
                · rename_i hb
                  obtain ⟨olds, ho, hox, hosc⟩ := xRow_ok (s := ye.c) (n := 0) (cs := []) R hx rfl
                  exact fresh olds [] none 0 0 rfl ho hox hosc (by omega) (by simpa using hb.1) (by simpa using hb.2) (by simpa using h)
                · cases h
            · rename_i g o len cap
              split at h
              · rename_i hroom
                split at h
                · rename_i M1 hw
                  cases h
                  obtain ⟨p, hp, hle, rfl⟩ := VX_sl hx
                  obtain ⟨w', hst, R'⟩ := xWrite_ok R hp hnx hs.one hw
                  exact ⟨φ, _, w', run_app_room (base := some ⟨p.1, o, none⟩) hT h2' hi hic hs hroom (by simp only [addr_add]; exact hst), .sl hp hroom, Phi.le_refl _, R'⟩
                · cases h
              · rename_i hroom
                split at h
                · rename_i hb
                  split at h
                  · rename_i k oldsX hro
                    obtain ⟨olds, ho, hox, hosc⟩ := xRow_ok R hx hro
                    have hk : k = len := by
                      unfold xRow at hro
                      simp only at hro
                      split at hro
                      · split at hro
                        · cases hro; rfl
                        · cases hro
                      · cases hro
                    subst hk
                    obtain ⟨p, hp, hle, hv⟩ := VX_sl hx
                    exact fresh olds oldsX _ _ _ hv ho hox hosc (by omega) hb.1 hb.2 h
                  · cases h
                · cases h
            · rename_i g a s len
              split at h
              · rename_i h0
                cases h
                subst h0
                have hn0 : news = [] := List.eq_nil_of_length_eq_zero (by rw [hnl]; simp)
                subst hn0
                obtain ⟨p, hp, hle, hv⟩ := VX_so hx
                subst hv
                exact ⟨φ, _, w, run_app_room (base := some _) hT h2' hi hic hs (by omega) (by simp [storeCells]), hx, Phi.le_refl _, R⟩
              · rename_i h0
                split at h
                · rename_i hb
                  obtain ⟨rfl, rfl, hb1, hb2⟩ := hb
                  split at h
                  · rename_i b hbk
                    split at h
                    · rename_i hbc
                      obtain ⟨hex, hbT, hle⟩ := hbc
                      split at h
                      · rename_i M1 hgr
                        cases h
                        obtain ⟨p, hp, hple, hv⟩ := VX_so hx
                        obtain ⟨q, cur, hq, hlo, hh, hL⟩ := R.lies hbk
                        rw [hp] at hq; cases hq
                        have hcell : P.cellsOf b.T = ye.c := by rw [hbT]; exact hY.c hye
                        obtain ⟨hsz, hmax⟩ := hL.room hex
                        rw [hcell] at hsz
                        have hsc : ∀ x ∈ b.cells.take (len * ye.c) ++ newsX, x.sc = true := fun x hx => (List.mem_append.1 hx).elim (fun h => hL.sc x (List.mem_of_mem_take h)) (hnsc x)
                        have hlen0 := hL.len
                        by_cases hroom : len + n ≤ p.2
                        · -- in place
                          have hfit : len * ye.c + news.length ≤ cur.size := by rw [hnl, hsz, ← Nat.add_mul]; exact Nat.mul_le_mul_right _ hroom
                          have hst := run_storeCells_at P p.1 (len * ye.c) b.T news 0 cur w hh (by omega) hs.one
                          simp only [Nat.add_zero] at hst
                          have hcur : (cur.toList.take (len * ye.c) ++ news ++ cur.toList.drop (len * ye.c + news.length)).toArray.size = cur.size := by simp; omega
                          have hv' : v = .slice (some ⟨p.1, 0, none⟩) len p.2 := by rw [hv]; simp
                          refine ⟨φ.ext M.n p, .slice (some ⟨p.1, 0, none⟩) (len + n) p.2, w.setRow p.1 (cur.toList.take (len * ye.c) ++ news ++ cur.toList.drop (len * ye.c + news.length)).toArray, ?_, ?_, R.le_ext p, R.grown_in hbk hex hgr hp hh ⟨?_, hsc, ?_, fun h => (by cases h), fun _ => ?_⟩ (fun hk => ⟨?_, hL.sc, ?_, fun h => (by rw [hex] at h; cases h), fun _ => ?_⟩)⟩
                          · rw [hv']
                            exact run_app_room (base := some ⟨p.1, 0, none⟩) hT h2' hi hic hs hroom (by simp only [addr_add, Nat.zero_add]; exact hst)
                          · have := VX.so (φ := φ.ext M.n p) (a := 0) (s := ye.c) (len := len + n) (Phi.ext_self φ M.n p) (by simpa using hroom)
                            simpa using this
                          · rw [hcur]; simp only [List.length_append, List.length_take, hncl]; omega
                          · intro j x c hx hcj
                            rw [arr_splice_get hfit] at hcj
                            by_cases hj : j < len * ye.c
                            · rw [if_neg (by omega)] at hcj
                              rw [List.getElem?_append_left (by simp; omega), List.getElem?_take, if_pos hj] at hx
                              exact hL.val j x c hx hcj
                            · have hjl := getElem?_lt hx
                              simp only [List.length_append, List.length_take, hncl] at hjl
                              rw [if_pos (by omega)] at hcj
                              rw [List.getElem?_append_right (by simp; omega)] at hx
                              have : (b.cells.take (len * ye.c)).length = len * ye.c := by simp; omega
                              rw [this] at hx
                              exact hnx.2 _ x c hx (by rw [List.getElem?_toArray]; exact hcj)
                          · rw [hcur]; simp only [hcell]; exact ⟨hsz, hmax⟩
                          · rw [hcur]; exact hlen0
                          · intro j x c hx hcj
                            have hjl := getElem?_lt hx
                            rw [arr_splice_get hfit, if_neg (by omega)] at hcj
                            exact hL.val j x c hx hcj
                          · rw [hcur, hcell]; exact ⟨hsz, hmax⟩
                        · -- a new block
                          have hrow2 : xRow M ye.c (.so g 0 ye.c len) = some (len, (b.cells.drop (0 * ye.c)).take (len * ye.c)) := by
                            unfold xRow
                            simp only [hbk]
                            rw [if_pos ⟨trivial, by omega⟩]
                          obtain ⟨olds, ho, hox, hosc⟩ := xRow_ok R hx hrow2
                          have hv' : v = .slice (some ⟨p.1, 0, none⟩) len p.2 := by rw [hv]; simp
                          have hrun := run_app_grow (ty := ty) hT h2' hi hiz hic hv' ho hs (by omega) (by rw [hib]; exact hb1) hb2
                          have hcap := grownCap_ge w (len + n) p.2 e
                          have hmx := grownCap_le_maxLen w (len + n) p.2 e (by simp only [maxLen]; omega)
                          rw [Nat.zero_mul, List.drop_zero] at hox
                          have hl := grown_lies (P := P) (e := e) (hox.append hnx) hsc (need := len + n) (by rw [List.length_append, ho.num, hnl, Nat.add_mul]) (hY.c hye) hzs hcap hmx
                          refine ⟨φ.ext M.n (w.heap.size, grownCap w (len + n) p.2 e), _, _, hrun, ?_, R.le_ext _, R.grown_new hbk hex hgr (by rw [hbT]; exact hl) (by rw [hbT]; rfl) rfl rfl rfl⟩
                          have := VX.so (φ := φ.ext M.n (w.heap.size, grownCap w (len + n) p.2 e)) (a := 0) (s := ye.c) (len := len + n) (Phi.ext_self φ M.n _) (by simpa using hcap)
                          simpa using this
                      · cases h
                    · cases h
                  · cases h
                · cases h
            · cases h
          · cases h
      · cases h
    · cases h
  · cases h
end
end Go.Proofs.YtcmaledchnhccaaGreatDoor

/-! That the executor follows the model: copy, bytes that become a text. No condition. -/
namespace Go.Proofs.YtcmaledchnhccaaGreatDoor
open Go Go.RowKit

section
variable {P : Program} {φ : Phi} {w0 w w' : World} {M M' : Mem} {S : Tr XV} {Y : TYS}

theorem xCopy_ok (hY : YOK2 P Y) (R : MR P φ w0 M w) {T T2 ty : TypeId} {x y r : XV} {v u : Value} (hx : VX φ x v) (hy : VX φ y u) (h : xCopy Y M T x y = some (r, M')) :
    ∃ z w', (Builtin.copy_ #[T, T2] ty #[v, u]).run P w = .ok z w' ∧ VX φ r z ∧ MR P φ w0 M' w' := by
  unfold xCopy at h
  split at h
  · cases h
  rename_i t ht
  have hT := hY.d ht
  split at h
  · rename_i e ed
    rw [ed] at hT
    split at h
    · rename_i ye hye
      split at h
      · cases h
      · rename_i hc0
        split at h
        · rename_i n newsX m oldX hrow hrow2
          obtain ⟨news, hs, hnx, hnsc⟩ := xRow_ok R hy hrow
          -- the model's own road
          have road : ∀ (base : Option Addr) (dLen dCap : Nat) (w' : World), v = .slice base dLen dCap → (match base with
              | some a => storeCells a (news.take (min n dLen * ye.c))
              | none => pure () : Sem Unit).run P w = .ok () w' → (Builtin.copy_ #[T, T2] ty #[v, u]).run P w = .ok (.int .i64 (min n dLen : Nat)) w' := by
            intro base dLen dCap w' hv hst
            subst hv
            have hf := hs.first w rfl (min n dLen) (Nat.min_le_left _ _)
            have hl := hs.len w
            have hmin : Nat.min n dLen = min n dLen := rfl
            unfold Builtin.copy_
            simp only [List.getElem?_toArray, List.getElem?_cons_zero, List.getElem?_cons_succ]
            rw [run_bind_ok (run_underlying hT w)]
            simp only []
            rw [run_bind_ok hl, run_bind_ok (hY.sizeOf hye w), run_bind_ok (by rw [hmin]; exact hf)]
            cases base with
            | none => cases hst; rfl
            | some a => simp only at hst ⊢; rw [run_bind_ok hst]; rfl
          have st0 : ∀ (a : Addr), (storeCells a (news.take (0 * ye.c))).run P w = .ok () w := fun a => by simp [storeCells]
          simp only at h
          split at h
          · rename_i hk
            split at h
            · cases h
              cases VX_nils hx
              have := road none 0 0 w rfl rfl
              exact ⟨_, w, this, by simpa using VX.int .i64 0, R⟩
            · cases h
              rename_i g o len cap
              obtain ⟨p, hp, _, hv⟩ := VX_sl hx
              have hm : m = len := by
                unfold xRow at hrow2
                simp only at hrow2
                split at hrow2
                · split at hrow2
                  · cases hrow2; rfl
                  · cases hrow2
                · cases hrow2
              subst hm
              have := road (some ⟨p.1, o, none⟩) _ _ w hv (by simp only; rw [hk]; exact st0 _)
              rw [hk] at this
              exact ⟨_, w, this, .int _ _, R⟩
            · cases h
              rename_i g a s len
              obtain ⟨p, hp, _, hv⟩ := VX_so hx
              have hm : m = len := by
                unfold xRow at hrow2
                simp only at hrow2
                split at hrow2
                · split at hrow2
                  · cases hrow2; rfl
                  · cases hrow2
                · cases hrow2
              subst hm
              have := road (some ⟨p.1, a * s, none⟩) _ _ w hv (by simp only; rw [hk]; exact st0 _)
              rw [hk] at this
              exact ⟨_, w, this, .int _ _, R⟩
            · cases h
          · have wr : ∀ (p : Nat × Nat) (g o dLen dCap : Nat), φ g = some p → v = .slice (some ⟨p.1, o, none⟩) dLen dCap → m = dLen → ∀ M1, xWrite M g o (newsX.take (min n m * ye.c)) = some M1 →
                ∃ z w', (Builtin.copy_ #[T, T2] ty #[v, u]).run P w = .ok z w' ∧ VX φ (.int .i64 (min n m : Nat)) z ∧ MR P φ w0 M1 w' := by
              intro p g o dLen dCap hp hv hm M1 hw
              subst hm
              have hl : LX φ (newsX.take (min n m * ye.c)) (news.take (min n m * ye.c)).toArray := by
                have hn : news.length = newsX.length := by have := hnx.1; simpa using this
                refine ⟨by simp [hn], fun j x c hx hc => ?_⟩
                rw [List.getElem?_toArray, List.getElem?_take] at hc
                rw [List.getElem?_take] at hx
                split at hx
                · rename_i hj; rw [if_pos hj] at hc; exact hnx.2 j x c hx (by rw [List.getElem?_toArray]; exact hc)
                · cases hx
              obtain ⟨w', hst, R'⟩ := xWrite_ok R hp hl (fun u hu => hs.one u (List.mem_of_mem_take hu)) hw
              exact ⟨_, w', road (some ⟨p.1, o, none⟩) m dCap w' hv hst, .int _ _, R'⟩
            split at h
            · rename_i g o len cap
              split at h
              · rename_i M1 hw
                cases h
                obtain ⟨p, hp, _, hv⟩ := VX_sl hx
                have hm : m = len := by
                  unfold xRow at hrow2
                  simp only at hrow2
                  split at hrow2
                  · split at hrow2
                    · cases hrow2; rfl
                    · cases hrow2
                  · cases hrow2
                exact wr p g o len cap hp hv hm _ hw
              · cases h
            · rename_i g a s len
              split at h
              · rename_i M1 hw
                cases h
                obtain ⟨p, hp, _, hv⟩ := VX_so hx
                have hm : m = len ∧ s = ye.c := by
                  unfold xRow at hrow2
                  simp only at hrow2
                  split at hrow2
                  · split at hrow2
                    · rename_i hq; cases hrow2; exact ⟨rfl, hq.1⟩
                    · cases hrow2
                  · cases hrow2
                exact wr p g (a * ye.c) len _ hp (by rw [hv, hm.2]) hm.1 _ hw
              · cases h
            · cases h
        · cases h
    · cases h
  · cases h

theorem xSliceData_ok {Ts : Array TypeId} {ty : TypeId} {x r : XV} {v : Value} (hx : VX φ x v) (h : xSliceData x = some r) : ∃ z, (Builtin.unsafeSliceData_ Ts ty #[v]).run P w = .ok z w ∧ VX φ r z := by
  unfold xSliceData at h
  split at h
  · cases h; cases VX_nils hx; exact ⟨_, rfl, .nilp⟩
  · split at h
    · cases h
    · rename_i g o l cap hc
      cases h
      obtain ⟨p, hp, _, rfl⟩ := VX_sl hx
      refine ⟨.pointer (some ⟨p.1, o, none⟩), ?_, .ptr hp⟩
      show ((if cap ≠ 0 then pure (Value.pointer (some ⟨p.1, o, none⟩)) else _) : Sem Value).run P w = _
      rw [if_pos hc]; rfl
  · split at h
    · cases h
    · rename_i g a s len hc
      cases h
      obtain ⟨p, hp, hle, rfl⟩ := VX_so hx
      refine ⟨.pointer (some ⟨p.1, a * s, none⟩), ?_, .ptr hp⟩
      have : p.2 - a ≠ 0 := by omega
      show ((if p.2 - a ≠ 0 then pure (Value.pointer (some ⟨p.1, a * s, none⟩)) else _) : Sem Value).run P w = _
      rw [if_pos this]; rfl
  · cases h

/-- A block is given up: whatever is done to it. -/
theorem MR.kill (R : MR P φ w0 M w) {g : Nat} {b : Blk} {p : Nat × Nat} (hg : M.t.get g = some b) (hp : φ g = some p) (hsz : w'.heap.size = w.heap.size) (hother : ∀ i, i ≠ p.1 → w'.heap[i]? = w.heap[i]?)
    (ho : w'.os = w.os) (ht : w'.tape = w.tape) (hu : w'.output = w.output) : MR P φ w0 ((M.unmate b).put g none) w' := by
  have hn := R.alive hg
  have hlim := R.lim
  obtain ⟨p0, cur0, hp0, hlo, _, _⟩ := R.lies hg
  rw [hp] at hp0; cases hp0
  have hget : ∀ i, ((M.unmate b).put g none).t.get i = if i = g then none else if b.mate = some i then none else M.t.get i := by
    intro i
    rw [Mem.get_put (by omega), R.unmate_get hg]
  have was : ∀ i b', (if i = g then none else if b.mate = some i then none else M.t.get i) = some b' → i ≠ g ∧ b.mate ≠ some i ∧ M.t.get i = some b' := by
    intro i b' h
    split at h
    · cases h
    · rename_i h1
      split at h
      · cases h
      · rename_i h2; exact ⟨h1, h2, h⟩
  refine { live := ?_, alias := ?_, dom := ?_, lim := ?_, mlim := ?_, fr := ?_ }
  · intro i b1 hi
    rw [hget] at hi
    obtain ⟨h1, h2, h3⟩ := was i b1 hi
    obtain ⟨q, cur1, hq, a1, a2, a3⟩ := R.lies h3
    have hne : q.1 ≠ p.1 := fun hqp => h2 (R.alias g i b b1 p q hg h3 hp hq hqp.symm (fun h => h1 h.symm))
    exact ⟨q, cur1, hq, a1, (hother q.1 hne).trans a2, a3.len, a3.sc, a3.val, a3.exact, a3.room⟩
  · intro i j b1 b2 q r hi hj
    rw [hget] at hi hj
    exact R.alias i j b1 b2 q r (was i b1 hi).2.2 (was j b2 hj).2.2
  · intro i hi
    exact R.dom i (by simpa [Mem.put, Mem.unmate_n] using hi)
  · show (M.unmate b).n < _
    rw [Mem.unmate_n]; exact R.lim
  · intro i b1 h hi hmt
    show h < (M.unmate b).n
    rw [Mem.unmate_n]
    rw [hget] at hi
    exact R.mlim i b1 h (was i b1 hi).2.2 hmt
  · exact ⟨ho.trans R.fr.os, ht.trans R.fr.tape, hu.trans R.fr.output, by rw [hsz]; exact R.fr.size, fun i hi hn => by rw [hother i (by omega)]; exact R.fr.blk i hi hn⟩

theorem unBytes_ok : ∀ {xs : List XV} {l : List UInt8}, unBytes xs = some l → xs.length = l.length ∧ ∀ (j : Nat) (b : UInt8), l[j]? = some b → xs[j]? = some (.int .u8 b.toNat)
  | [], l, h => by cases h; exact ⟨rfl, by simp⟩
  | x :: xs, l, h => by
    unfold unBytes at h
    split at h
    · rename_i he; cases he
    · rename_i n ys he
      cases he
      split at h
      · rename_i hn
        split at h
        · rename_i l' hl'
          cases h
          obtain ⟨h1, h2⟩ := unBytes_ok hl'
          refine ⟨by simp [h1], fun j b hj => ?_⟩
          cases j with
          | zero =>
            simp at hj
            subst hj
            simp only [List.getElem?_cons_zero, Option.some.injEq, XV.int.injEq, true_and]
            have : (UInt8.ofNat n.toNat).toNat = n.toNat := by
              simp [UInt8.toNat_ofNat']; omega
            rw [this]; omega
          | succ j => simp at hj; simpa using h2 j b hj
        · cases h
      · cases h
    · cases h

theorem freeze_heap (w : World) (a : Addr) (n i : Nat) (h : i ≠ a.block) : (w.freeze a n).heap[i]? = w.heap[i]? := by
  unfold World.freeze
  split
  · rfl
  · simp [Array.getElem?_modify, Ne.symm h]
theorem freeze_size (w : World) (a : Addr) (n : Nat) : (w.freeze a n).heap.size = w.heap.size := by
  unfold World.freeze
  split
  · rfl
  · simp
theorem freeze_rest (w : World) (a : Addr) (n : Nat) : (w.freeze a n).os = w.os ∧ (w.freeze a n).tape = w.tape ∧ (w.freeze a n).output = w.output := by
  unfold World.freeze
  split <;> exact ⟨rfl, rfl, rfl⟩

theorem xToText_ok (hY : YOK2 P Y) (R : MR P φ w0 M w) {T T2 ty : TypeId} {x n r : XV} {v u : Value} (hx : VX φ x v) (hn : VX φ n u) (hp : (∃ q, v = .pointer q)) (h : xToText Y M T x n = some (r, M')) :
    ∃ z w', (Builtin.unsafeString_ #[T, T2] ty #[v, u]).run P w = .ok z w' ∧ VX φ r z ∧ MR P φ w0 M' w' := by
  unfold xToText at h
  split at h
  · rename_i y n hy
    cases VX_int hn
    split at h
    · rename_i h0
      cases h
      subst h0
      obtain ⟨q, rfl⟩ := hp
      exact ⟨.string .empty, w, Lib.run_unsafeString_none w T T2 ty q, VX.str' _ rfl, R⟩
    · rename_i h0
      have hT := hY.d hy
      split at h
      · rename_i e g o ed
        rw [ed] at hT
        split at h
        · rename_i b ye hb hye
          split at h
          · rename_i hc
            obtain ⟨hn0, hn63, rfl, hc1, hbT, hle⟩ := hc
            split at h
            · rename_i l hl
              cases h
              obtain ⟨p, hpp, rfl⟩ := VX_ptr hx
              obtain ⟨q, cur, hq, hlo, hh, hL⟩ := R.lies hb
              rw [hpp] at hq; cases hq
              obtain ⟨h1, h2⟩ := unBytes_ok hl
              have hll : l.length = n.toNat := by rw [← h1, List.length_take]; omega
              have hsz := hL.len
              have hrun := Lib.run_unsafeString_row (P := P) w T T2 ty e hT (by rw [hY.c hye]; exact hc1) p.1 cur.size (by simp [World.shape?, hh, hbT]) l (by intro hnil; rw [hnil] at hll; simp at hll; omega) (by omega) (by omega) (by
                intro j x hx
                have hjl := getElem?_lt hx
                have hx' := h2 j x hx
                rw [List.getElem?_take, if_pos (by omega)] at hx'
                obtain ⟨c, hc, hv⟩ := hL.at hx'
                rw [addr_add]
                rw [VX_int hv] at hc
                exact cell_at hh (by simpa using hc))
              have hnn : (n : Int) = (l.length : Int) := by omega
              rw [hnn]
              obtain ⟨f1, f2, f3⟩ := freeze_rest w ⟨p.1, 0, none⟩ l.length
              exact ⟨_, _, hrun, VX.str' _ (by simp), R.kill hb hpp (freeze_size _ _ _) (fun i hi => freeze_heap w _ _ i hi) f1 f2 f3⟩
            · cases h
          · cases h
        · cases h
      · cases h
  · cases h
end
end Go.Proofs.YtcmaledchnhccaaGreatDoor

/-! That the executor follows the model: each operation that is no call. No condition. -/
namespace Go.Proofs.YtcmaledchnhccaaGreatDoor
open Go Go.RowKit

section
variable {P : Program} {φ : Phi} {w0 w w' : World} {M M' : Mem} {S : Tr XV} {Y : TYS}

/-- what an operation that hands back r has done -/
def Did (P : Program) (φ : Phi) (w0 : World) (s : Sem Next) (w : World) (r : Option XV) (M' : Mem) : Prop :=
  ∃ φ' nx w', s.run P w = .ok nx w' ∧ φ.le φ' ∧ MR P φ' w0 M' w' ∧ (match r with
    | some x => ∃ v, nx = .value v ∧ VX φ' x v
    | none => nx = .skip)

theorem Did_same {s : Sem Next} {t : Sem Value} {x : Option XV} {r : Option XV} (R : MR P φ w0 M w) (hs : s = (do pure (.value (← t)))) (h : same M x = some (r, M')) (ht : ∀ y, x = some y → ∃ u, t.run P w = .ok u w ∧ VX φ y u) : Did P φ w0 s w r M' := by
  cases x with
  | none => cases h
  | some y =>
    cases h
    obtain ⟨u, hr, hv⟩ := ht y rfl
    exact ⟨φ, .value u, w, by rw [hs, run_bind_ok hr]; rfl, Phi.le_refl _, R, u, rfl, hv⟩
theorem Did_both {s : Sem Next} {t : Sem Value} {x : Option (XV × Mem)} {r : Option XV} (hs : s = (do pure (.value (← t)))) (h : both x = some (r, M')) (ht : ∀ y M1, x = some (y, M1) → ∃ φ' u w', t.run P w = .ok u w' ∧ VX φ' y u ∧ φ.le φ' ∧ MR P φ' w0 M1 w') : Did P φ w0 s w r M' := by
  cases x with
  | none => cases h
  | some y =>
    cases h
    obtain ⟨φ', u, w', hr, hv, hle, R'⟩ := ht y.1 y.2 rfl
    exact ⟨φ', .value u, w', by rw [hs, run_bind_ok hr]; rfl, hle, R', u, rfl, hv⟩

theorem evs_ok {a : Act} (hS : SR φ S a.tmps) : ∀ (xs : List Operand) {ys : List XV}, evs S xs = some ys → LX φ ys (xs.map a.eval).toArray
  | [], ys, h => by cases h; exact ⟨rfl, by simp⟩
  | x :: xs, ys, h => by
    unfold evs at h
    split at h
    · rename_i y ys' hy hys
      cases h
      have ih := evs_ok hS xs hys
      refine ⟨by have := ih.1; simpa using this, fun j z c hz hc => ?_⟩
      cases j with
      | zero =>
        simp at hz hc
        subst hz hc
        exact ev_ok hS hy
      | succ j =>
        simp at hz hc
        exact ih.2 j z c hz (by simpa using hc)
    · cases h

set_option maxHeartbeats 2000000 in
theorem xop_ok (hY : YOK2 P Y) (R : MR P φ w0 M w) {a : Act} (hS : SR φ S a.tmps) {o : Oper} {r : Option XV} (h : xop Y S M o.op = some (r, M')) : Did P φ w0 (execOp a.eval o) w r M' := by
  unfold xop at h
  have E := @ev_ok φ S a hS
  split at h
  · rename_i x ho
    refine Did_same (t := pure (a.eval x)) R ?_ h fun y hy => ⟨_, rfl, E hy⟩
    unfold execOp; rw [ho]; rfl
  · rename_i x ho
    refine Did_same (t := pure (a.eval x)) R ?_ h fun y hy => ⟨_, rfl, E hy⟩
    unfold execOp; rw [ho]; rfl
  · rename_i c x y ho
    split at h
    · rename_i b hb
      have hc := VX_bool (E hb)
      refine Did_same (t := pure (a.eval (if b then x else y))) R ?_ h fun y hy => ⟨_, rfl, E hy⟩
      unfold execOp; rw [ho]
      simp only [hc]
      cases b <;> rfl
    · cases h
  · rename_i T ho
    split at h
    · rename_i y hy
      split at h
      · rename_i z hz
        obtain ⟨v, _, hzv, hzx, hzs⟩ := hY.zv hy hz
        refine Did_both (t := Instr.alloc T true (.tuple #[])) (by unfold execOp; rw [ho]) h fun y M1 hn => ?_
        obtain ⟨rfl, hle, R'⟩ := xNew_ok R (T := T) (hzx φ) hn
        refine ⟨_, .pointer (some ⟨w.heap.size, 0, none⟩), _, ?_, .ptr (Phi.ext_self _ _ _), hle, R'⟩
        unfold Instr.alloc
        rw [run_bind_ok (hzv w)]
        rfl
      · cases h
    · cases h
  · rename_i T x ho
    split at h
    · rename_i v hv
      refine Did_both (t := Instr.box T (a.eval x)) (by unfold execOp; rw [ho]) h fun y M1 hn => ?_
      have hsc : v.cells.all XV.sc = true := by
        unfold xNew at hn
        split at hn
        · assumption
        · cases hn
      obtain ⟨hl, _⟩ := (E hv).cells hsc
      obtain ⟨rfl, hle, R'⟩ := xNew_ok R (T := T) hl hn
      exact ⟨_, .pointer (some ⟨w.heap.size, 0, none⟩), _, rfl, .ptr (Phi.ext_self _ _ _), hle, R'⟩
    · cases h
  · rename_i T parts ho
    exact Did_same (t := Instr.build T (parts.map fun (i, x) => (i, a.eval x))) R (by unfold execOp; rw [ho]) h fun y hy => xBuild_ok hY hS hy
  · rename_i T len parts ho
    exact Did_both (t := Instr.buildSlice T len (parts.map fun (i, x) => (i, a.eval x))) (by unfold execOp; rw [ho]) h fun y M1 hy => xBuildSlice_ok hY R hS hy
  · rename_i T x ho
    split at h
    · rename_i v hv
      refine Did_same (t := Instr.loadAt T (a.eval x)) R (by unfold execOp; rw [ho]) h fun y hy => ?_
      obtain ⟨ad, u, hp, hr, hu⟩ := xLoad_ok hY R (E hv) hy
      refine ⟨u, ?_, hu⟩
      unfold Instr.loadAt
      rw [hp, run_bind_ok (show (Instr.sureAddr _).run P w = .ok ad w from rfl)]
      exact hr
    · cases h
  · rename_i T x y ho
    split at h
    · rename_i v u hv hu
      split at h
      · rename_i M1 hst
        cases h
        obtain ⟨w', hr, R'⟩ := xStore_ok hY R (E hv) (E hu) hst
        refine ⟨φ, .skip, w', ?_, Phi.le_refl _, R', rfl⟩
        unfold execOp; rw [ho]
        exact (run_bind_ok hr).trans rfl
      · cases h
    · cases h
  · rename_i x ho
    split at h
    · rename_i g o' hv
      cases h
      obtain ⟨p, hp, he⟩ := VX_ptr (E hv)
      refine ⟨φ, .value (a.eval x), w, ?_, Phi.le_refl _, R, _, rfl, E hv⟩
      unfold execOp; rw [ho]
      simp only [he]; rfl
    · rename_i f cs hv
      cases h
      obtain ⟨arr, he, _⟩ := VX_fn (E hv)
      refine ⟨φ, .value (a.eval x), w, ?_, Phi.le_refl _, R, _, rfl, E hv⟩
      unfold execOp; rw [ho]
      simp only [he]; rfl
    · cases h
  · rename_i op T x y yT ho
    split at h
    · rename_i v u hv hu
      exact Did_same (t := (do eqGuard op T x y (a.eval x) (a.eval y); binOp op T (a.eval x) (a.eval y))) R (by unfold execOp; rw [ho]) h fun z hz => xBin_ok hY (E hv) (E hu) rfl hz
    · cases h
  · rename_i op T x ho
    split at h
    · rename_i v hv
      exact Did_same (t := Op.unary op (a.eval x)) R (by unfold execOp; rw [ho]) h fun z hz => xUn_ok (E hv) hz
    · cases h
  · rename_i s d x ho
    split at h
    · rename_i v hv
      exact Did_same (t := convert s d (a.eval x)) R (by unfold execOp; rw [ho]) h fun z hz => xConv_ok hY R (E hv) hz
    · cases h
  · rename_i f first captured ho
    split at h
    · rename_i ys hf hys
      cases h
      have hl := evs_ok hS _ hys
      have hfe : first = #[] := by cases first; simp at hf; subst hf; rfl
      refine ⟨φ, .value (.func (.func f) #[] (captured.map a.eval)), w, ?_, Phi.le_refl _, R, _, rfl, .fn (by have := hl.1; simpa using this) (fun j x c hx hc => hl.2 j x c hx (by rw [← hc]; simp))⟩
      unfold execOp; rw [ho, hfe]
      show ((Instr.makeFunc (.func f) ((#[] : Array Operand).map a.eval) (captured.map a.eval) >>= fun v => pure (Next.value v)) : Sem Next).run P w = _
      simp [Instr.makeFunc]
    · cases h
  · rename_i T l c ho
    split at h
    · rename_i l' c' hl hc
      exact Did_both (t := Instr.makeSlice T (a.eval l) (a.eval c)) (by unfold execOp; rw [ho]) h fun y M1 hy => xMake_ok hY R (E hl) (E hc) hy
    · cases h
  · rename_i T x lo hi mx ho
    split at h
    · rename_i v hv
      exact Did_same (t := Instr.sliceAt T (a.eval x) (lo.map a.eval) (hi.map a.eval) (mx.map a.eval)) R (by unfold execOp; rw [ho]) h fun z hz => xSlice_ok hY hS (E hv) hz
    · cases h
  · rename_i T x f ho
    split at h
    · rename_i v hv
      exact Did_same (t := Instr.fieldAt T (a.eval x) f) R (by unfold execOp; rw [ho]) h fun z hz => xFieldAddr_ok hY (E hv) hz
    · cases h
  · rename_i T x f ho
    split at h
    · rename_i v hv
      exact Did_same (t := Instr.field T (a.eval x) f) R (by unfold execOp; rw [ho]) h fun z hz => xField_ok hY (E hv) hz
    · cases h
  · rename_i T x i ho
    split at h
    · rename_i v u hv hu
      exact Did_same (t := Instr.indexAt T (a.eval x) (a.eval i)) R (by unfold execOp; rw [ho]) h fun z hz => xIndexAddr_ok hY (E hv) (E hu) hz
    · cases h
  · rename_i T x i ho
    split at h
    · rename_i v u hv hu
      exact Did_same (t := Instr.index T (a.eval x) (a.eval i)) R (by unfold execOp; rw [ho]) h fun z hz => xIndex_ok hY (E hv) (E hu) hz
    · cases h
  · rename_i x i ho
    split at h
    · rename_i v hv
      exact Did_same (t := Instr.extract (a.eval x) i) R (by unfold execOp; rw [ho]) h fun z hz => xExtract_ok (E hv) hz
    · cases h
  · rename_i c ho
    split at h
    · rename_i b hb
      have hexec : execOp a.eval o = builtin b c.argTypes o.type (c.args.map fun | .const _ => true | _ => false) (c.args.map a.eval) := by
        unfold execOp
        rw [ho]
        show ((resolve a.eval c o.type >>= fun d => invoke d.target d.args) : Sem Next) = _
        have : resolve a.eval c o.type = pure { target := .builtin b c.argTypes o.type (c.args.map fun | .const _ => true | _ => false), args := c.args.map a.eval } := by
          unfold resolve
          rw [hb]; rfl
        rw [this]; rfl
      have harg : ∀ {xs : List Operand}, c.args.toList = xs → c.args.map a.eval = (xs.map a.eval).toArray := by
        intro xs hxs; subst hxs; rw [← Array.toList_map]
      have htyp : ∀ {ts : List TypeId}, c.argTypes.toList = ts → c.argTypes = ts.toArray := by
        intro ts hts; subst hts; rfl
      split at h
      · rename_i T x e1 e2
        split at h
        · rename_i v hv
          exact Did_same (t := Builtin.len_ #[T] o.type #[a.eval x]) R (by rw [hexec, harg e2, htyp e1]; rfl) h fun z hz => xLen_ok hY (E hv) hz
        · cases h
      · rename_i T x e1 e2
        split at h
        · rename_i v hv
          exact Did_same (t := Builtin.cap_ #[T] o.type #[a.eval x]) R (by rw [hexec, harg e2, htyp e1]; rfl) h fun z hz => xCap_ok hY (E hv) hz
        · cases h
      · rename_i T T' x y e1 e2
        split at h
        · rename_i v u hv hu
          split at h
          · rename_i hTT
            exact Did_both (t := Builtin.append_ #[T, T'] o.type #[a.eval x, a.eval y]) (by rw [hexec, harg e2, htyp e1]; rfl) h fun z M1 hz => xAppend_ok hY R (E hv) (E hu) (.inl hTT) hz
          · split at h
            · rename_i t' ht'
              split at h
              · rename_i ed
                exact Did_both (t := Builtin.append_ #[T, T'] o.type #[a.eval x, a.eval y]) (by rw [hexec, harg e2, htyp e1]; rfl) h fun z M1 hz => xAppend_ok hY R (E hv) (E hu) (.inr (by rw [hY.d ht', ed])) hz
              · cases h
            · cases h
        · cases h
      · rename_i T x e2
        split at h
        · rename_i v hv
          exact Did_same (t := Builtin.unsafeSliceData_ c.argTypes o.type #[a.eval x]) R (by rw [hexec, harg e2]; rfl) h fun z hz => xSliceData_ok (E hv) hz
        · cases h
      · rename_i T T' x y e1 e2
        split at h
        · rename_i v u hv hu
          split at h
          rename_i hip
          refine Did_both (t := Builtin.unsafeString_ #[T, T'] o.type #[a.eval x, a.eval y]) (by rw [hexec, harg e2, htyp e1]; rfl) h fun z M1 hz => ?_
          have hp : ∃ q, a.eval x = .pointer q := by
            have hxv := E hv
            cases v with
            | ptr g o => obtain ⟨p, _, he⟩ := VX_ptr hxv; exact ⟨_, he⟩
            | nilp => exact ⟨_, VX_nilp hxv⟩
            | _ => cases hip
          obtain ⟨q, w', hr, hv', R'⟩ := xToText_ok (T2 := T') (ty := o.type) hY R (E hv) (E hu) hp hz
          exact ⟨φ, q, w', hr, hv', Phi.le_refl _, R'⟩
          cases h
        · cases h
      · rename_i T T' x y e1 e2
        split at h
        · rename_i v u hv hu
          refine Did_both (t := Builtin.copy_ #[T, T'] o.type #[a.eval x, a.eval y]) (by rw [hexec, harg e2, htyp e1]; rfl) h fun z M1 hz => ?_
          obtain ⟨q, w', hr, hv', R'⟩ := xCopy_ok (T2 := T') (ty := o.type) hY R (E hv) (E hu) hz
          exact ⟨φ, q, w', hr, hv', Phi.le_refl _, R'⟩
        · cases h
      · rename_i Ts x y e2
        split at h
        · rename_i v u hv hu
          exact Did_same (t := Builtin.max_ c.argTypes o.type #[a.eval x, a.eval y]) R (by rw [hexec, harg e2]; rfl) h fun z hz => xMinMax_ok (Ts := c.argTypes) (ty := o.type) (mx := true) (E hv) (E hu) hz
        · cases h
      · rename_i Ts x y e2
        split at h
        · rename_i v u hv hu
          exact Did_same (t := Builtin.min_ c.argTypes o.type #[a.eval x, a.eval y]) R (by rw [hexec, harg e2]; rfl) h fun z hz => xMinMax_ok (Ts := c.argTypes) (ty := o.type) (mx := false) (E hv) (E hu) hz
        · cases h
      · cases h
    · cases h
  · cases h
end
end Go.Proofs.YtcmaledchnhccaaGreatDoor
