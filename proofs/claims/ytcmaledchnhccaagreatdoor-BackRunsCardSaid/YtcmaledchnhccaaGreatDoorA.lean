/- An abstract logic over the model: values, what is owned, contracts. No condition. -/
import Derived.Calls
import Derived.Below
import Derived.Laws.AppendOwn
import Derived.ChangeKeysEq
import Derived.Laws.Entries
import Derived.Laws.CopyRow
import Derived.Laws.Cells
import Derived.Laws.Tables
import Derived.Shelf.Abstract
import Derived.Laws.StructEq
import Derived.Orders
/-! Abstract values, their relation to the concrete frame and world, and how each change of a frame or of the world keeps it. No condition. -/
namespace Go.Proofs.YtcmaledchnhccaaGreatDoor
open Go Go.RowKit

/-- Abstract values: what is read (in memory that stays as it is), what this frame owns, and references to what it owns. -/
inductive AV where
  | int (k : IntKind) (n : Int)
  | bool (b : Bool)
  | str (s : List UInt8)
  | nilp
  | sl (s : Nat) (es : List (List AV))
  | ip (s : Nat) (es : List (List AV)) (i o : Nat)
  | fn (f : FuncId) (caps : List AV)
  | agg (cs : List AV)
  | tup (vs : List AV)
  | ow (e s : Nat) (es : List (List AV))
  | bx (e s : Nat) (es : List (List AV))
  | op (R : World → List Nat → Value → Prop)
  | rf (k : Nat)
  | rp (k i o : Nat)
  | rs (k a n : Nat)
  | junk

abbrev Imm := Nat → Option Obj
def Imm.le (H H' : Imm) : Prop := ∀ g o, H g = some o → H' g = some o
theorem Imm.le_refl (H : Imm) : H.le H := fun _ _ h => h
theorem Imm.le_trans {a b c : Imm} (h : a.le b) (k : b.le c) : a.le c := fun g o e => k g o (h g o e)

/-- one cell's worth -/
def AV.sc : AV → Bool
  | .int .. | .bool _ | .str _ | .nilp | .sl .. | .ip .. | .fn .. => true
  | _ => false
/-- what does not hang on the frame -/
def AV.pers : AV → Bool
  | .int .. | .bool _ | .str _ | .nilp | .sl .. | .ip .. | .fn .. | .agg _ | .tup _ => true
  | _ => false
def AV.owner : AV → Bool
  | .ow .. | .bx .. | .op _ => true
  | _ => false
def AV.refTo (k : Nat) : AV → Bool
  | .rf j => j == k
  | .rp j _ _ => j == k
  | .rs j _ _ => j == k
  | _ => false
def AV.isRef : AV → Bool
  | .rf _ | .rp .. | .rs .. => true
  | _ => false

/-- A value in memory that stays as it is (H) stands for an abstract value. -/
inductive V (H : Imm) : AV → Value → Prop
  | int (k : IntKind) (n : Int) : V H (.int k n) (.int k n)
  | bool (b : Bool) : V H (.bool b) (.bool b)
  | str (s : ByteArray) : V H (.str s.data.toList) (.string s)
  | nilp : V H .nilp (.pointer none)
  | sl0 (s : Nat) : V H (.sl s []) (.slice none 0 0)
  | sl {s : Nat} {es : List (List AV)} {g off cap : Nat} {cur : Array Value} {T : TypeId} {fr : Nat × Nat} (cs : Nat → Nat → Value)
      (hg : H g = some (.cells cur T fr)) (hl : ∀ e ∈ es, e.length = s) (hcap : es.length ≤ cap) (hfit : es ≠ [] → off + es.length * s ≤ cur.size)
      (hs : ∀ (i : Nat) (e : List AV) (t : Nat) (x : AV), es[i]? = some e → e[t]? = some x → AV.sc x = true)
      (hc : ∀ (i : Nat) (e : List AV) (t : Nat) (x : AV), es[i]? = some e → e[t]? = some x → cur[off + i * s + t]? = some (cs i t))
      (hv : ∀ (i : Nat) (e : List AV) (t : Nat) (x : AV), es[i]? = some e → e[t]? = some x → V H x (cs i t)) : V H (.sl s es) (.slice (some ⟨g, off, none⟩) es.length cap)
  | ip {s : Nat} {es : List (List AV)} {g off i o : Nat} {cur : Array Value} {T : TypeId} {fr : Nat × Nat} (cs : Nat → Nat → Value)
      (hg : H g = some (.cells cur T fr)) (hl : ∀ e ∈ es, e.length = s) (hfit : off + es.length * s ≤ cur.size)
      (hs : ∀ (i : Nat) (e : List AV) (t : Nat) (x : AV), es[i]? = some e → e[t]? = some x → AV.sc x = true)
      (hc : ∀ (i : Nat) (e : List AV) (t : Nat) (x : AV), es[i]? = some e → e[t]? = some x → cur[off + i * s + t]? = some (cs i t))
      (hv : ∀ (i : Nat) (e : List AV) (t : Nat) (x : AV), es[i]? = some e → e[t]? = some x → V H x (cs i t)) : V H (.ip s es i o) (.pointer (some ⟨g, off + i * s + o, none⟩))
  | fn {f : FuncId} {caps : List AV} {arr : Array Value} (us : Nat → Value) (hn : arr.size = caps.length)
      (hs : ∀ (j : Nat) (x : AV), caps[j]? = some x → AV.sc x = true)
      (hc : ∀ (j : Nat) (x : AV), caps[j]? = some x → arr[j]? = some (us j)) (hv : ∀ (j : Nat) (x : AV), caps[j]? = some x → V H x (us j)) : V H (.fn f caps) (.func (.func f) #[] arr)
  | agg {cs : List AV} {arr : Array Value} (us : Nat → Value) (hn : arr.size = cs.length)
      (hs : ∀ (j : Nat) (x : AV), cs[j]? = some x → AV.sc x = true)
      (hc : ∀ (j : Nat) (x : AV), cs[j]? = some x → arr[j]? = some (us j)) (hv : ∀ (j : Nat) (x : AV), cs[j]? = some x → V H x (us j)) : V H (.agg cs) (.agg arr)
  | tup {vs : List AV} {arr : Array Value} (us : Nat → Value) (hn : arr.size = vs.length)
      (hc : ∀ (j : Nat) (x : AV), vs[j]? = some x → arr[j]? = some (us j)) (hv : ∀ (j : Nat) (x : AV), vs[j]? = some x → V H x (us j)) : V H (.tup vs) (.tuple arr)

theorem V.mono {H H' : Imm} (h : H.le H') {x : AV} {v : Value} (hv : V H x v) : V H' x v := by
  induction hv with
  | int k n => exact .int k n
  | bool b => exact .bool b
  | str s => exact .str s
  | nilp => exact .nilp
  | sl0 s => exact .sl0 s
  | sl cs hg hl hcap hfit hs hc hv ih => exact .sl cs (h _ _ hg) hl hcap hfit hs hc ih
  | ip cs hg hl hfit hs hc hv ih => exact .ip cs (h _ _ hg) hl hfit hs hc ih
  | fn us hn hs hc hv ih => exact .fn us hn hs hc ih
  | agg us hn hs hc hv ih => exact .agg us hn hs hc ih
  | tup us hn hc hv ih => exact .tup us hn hc ih

theorem V.pers {H : Imm} {x : AV} {v : Value} (h : V H x v) : x.pers = true := by cases h <;> rfl

/-- The cells of a row stand for its elements. -/
def RowRel (H : Imm) (s : Nat) (es : List (List AV)) (cur : Array Value) (off : Nat) : Prop :=
  (∀ e ∈ es, e.length = s) ∧ ∀ i e t x, es[i]? = some e → e[t]? = some x → AV.sc x = true ∧ ∃ c, cur[off + i * s + t]? = some c ∧ V H x c

theorem RowRel.mono {H H' : Imm} (h : H.le H') {s es cur off} (r : RowRel H s es cur off) : RowRel H' s es cur off :=
  ⟨r.1, fun i e t x he hx => let ⟨a, c, hc, hv⟩ := r.2 i e t x he hx; ⟨a, c, hc, hv.mono h⟩⟩

theorem V_sl_iff {H : Imm} {s : Nat} {es : List (List AV)} {v : Value} : V H (.sl s es) v ↔
    (es = [] ∧ v = .slice none 0 0) ∨ ∃ g off cap cur T fr, v = .slice (some ⟨g, off, none⟩) es.length cap ∧ H g = some (.cells cur T fr) ∧ es.length ≤ cap ∧ (es ≠ [] → off + es.length * s ≤ cur.size) ∧ RowRel H s es cur off := by
  constructor
  · intro h
    cases h with
    | sl0 => exact .inl ⟨rfl, rfl⟩
    | sl cs hg hl hcap hfit hs hc hv => exact .inr ⟨_, _, _, _, _, _, rfl, hg, hcap, hfit, hl, fun i e t x he hx => ⟨hs i e t x he hx, _, hc i e t x he hx, hv i e t x he hx⟩⟩
  · rintro (⟨rfl, rfl⟩ | ⟨g, off, cap, cur, T, fr, rfl, hg, hcap, hfit, hl, hr⟩)
    · exact .sl0 s
    · refine .sl (fun i t => (cur[off + i * s + t]?).getD undef) hg hl hcap hfit (fun i e t x he hx => (hr i e t x he hx).1) (fun i e t x he hx => ?_) (fun i e t x he hx => ?_)
      · obtain ⟨_, c, hc, hv⟩ := hr i e t x he hx
        rw [hc]; rfl
      · obtain ⟨_, c, hc, hv⟩ := hr i e t x he hx
        rw [hc]; exact hv

theorem V_ip_iff {H : Imm} {s : Nat} {es : List (List AV)} {i o : Nat} {v : Value} : V H (.ip s es i o) v ↔
    ∃ g off cur T fr, v = .pointer (some ⟨g, off + i * s + o, none⟩) ∧ H g = some (.cells cur T fr) ∧ off + es.length * s ≤ cur.size ∧ RowRel H s es cur off := by
  constructor
  · intro h
    cases h with
    | ip cs hg hl hfit hs hc hv => exact ⟨_, _, _, _, _, rfl, hg, hfit, hl, fun i e t x he hx => ⟨hs i e t x he hx, _, hc i e t x he hx, hv i e t x he hx⟩⟩
  · rintro ⟨g, off, cur, T, fr, rfl, hg, hfit, hl, hr⟩
    refine .ip (fun i t => (cur[off + i * s + t]?).getD undef) hg hl hfit (fun i e t x he hx => (hr i e t x he hx).1) (fun i e t x he hx => ?_) (fun i e t x he hx => ?_)
    · obtain ⟨_, c, hc, hv⟩ := hr i e t x he hx
      rw [hc]; rfl
    · obtain ⟨_, c, hc, hv⟩ := hr i e t x he hx
      rw [hc]; exact hv

/-- The values of a list stand for abstract ones. -/
def Vs (H : Imm) (xs : List AV) (arr : Array Value) : Prop := arr.size = xs.length ∧ ∀ (j : Nat) (x : AV), xs[j]? = some x → ∃ c, arr[j]? = some c ∧ V H x c
theorem Vs.mono {H H' : Imm} (h : H.le H') {xs arr} (r : Vs H xs arr) : Vs H' xs arr := ⟨r.1, fun j x hx => let ⟨c, a, b⟩ := r.2 j x hx; ⟨c, a, b.mono h⟩⟩

theorem V_agg_iff {H : Imm} {cs : List AV} {v : Value} : V H (.agg cs) v ↔ ∃ arr, v = .agg arr ∧ Vs H cs arr ∧ ∀ (j : Nat) (x : AV), cs[j]? = some x → x.sc = true := by
  constructor
  · intro h
    cases h with
    | agg us hn hs hc hv => exact ⟨_, rfl, ⟨hn, fun j x hx => ⟨_, hc j x hx, hv j x hx⟩⟩, hs⟩
  · rintro ⟨arr, rfl, ⟨hn, hr⟩, hs⟩
    refine .agg (fun j => (arr[j]?).getD undef) hn hs (fun j x hx => ?_) (fun j x hx => ?_)
    · obtain ⟨c, hc, hv⟩ := hr j x hx
      rw [hc]; rfl
    · obtain ⟨c, hc, hv⟩ := hr j x hx
      rw [hc]; exact hv
theorem V_tup_iff {H : Imm} {cs : List AV} {v : Value} : V H (.tup cs) v ↔ ∃ arr, v = .tuple arr ∧ Vs H cs arr := by
  constructor
  · intro h
    cases h with
    | tup us hn hc hv => exact ⟨_, rfl, ⟨hn, fun j x hx => ⟨_, hc j x hx, hv j x hx⟩⟩⟩
  · rintro ⟨arr, rfl, ⟨hn, hr⟩⟩
    refine .tup (fun j => (arr[j]?).getD undef) hn (fun j x hx => ?_) (fun j x hx => ?_)
    · obtain ⟨c, hc, hv⟩ := hr j x hx
      rw [hc]; rfl
    · obtain ⟨c, hc, hv⟩ := hr j x hx
      rw [hc]; exact hv
theorem V_fn_iff {H : Imm} {f : FuncId} {cs : List AV} {v : Value} : V H (.fn f cs) v ↔ ∃ arr, v = .func (.func f) #[] arr ∧ Vs H cs arr ∧ ∀ (j : Nat) (x : AV), cs[j]? = some x → x.sc = true := by
  constructor
  · intro h
    cases h with
    | fn us hn hs hc hv => exact ⟨_, rfl, ⟨hn, fun j x hx => ⟨_, hc j x hx, hv j x hx⟩⟩, hs⟩
  · rintro ⟨arr, rfl, ⟨hn, hr⟩, hs⟩
    refine .fn (fun j => (arr[j]?).getD undef) hn hs (fun j x hx => ?_) (fun j x hx => ?_)
    · obtain ⟨c, hc, hv⟩ := hr j x hx
      rw [hc]; rfl
    · obtain ⟨c, hc, hv⟩ := hr j x hx
      rw [hc]; exact hv
theorem V_int {H : Imm} {k n v} (h : V H (.int k n) v) : v = .int k n := by cases h; rfl
theorem V_bool {H : Imm} {b v} (h : V H (.bool b) v) : v = .bool b := by cases h; rfl
theorem V_str {H : Imm} {b v} (h : V H (.str b) v) : ∃ s : ByteArray, v = .string s ∧ s.data.toList = b := by cases h; exact ⟨_, rfl, rfl⟩
theorem V_nilp {H : Imm} {v} (h : V H .nilp v) : v = .pointer none := by cases h; rfl
theorem V.one {H : Imm} {x : AV} {v : Value} (h : V H x v) (hs : x.sc = true) : v.oneCell' = true := by cases h <;> first | rfl | cases hs
theorem V.cells {H : Imm} {x : AV} {v : Value} (h : V H x v) (hs : x.sc = true) : v.cells = #[v] := by cases h <;> first | rfl | cases hs

/-! ### What a frame owns -/
/-- a slice that is owned whole, its array's spare room too -/
def OwnS (H : Imm) (w : World) (bs : List Nat) (e s : Nat) (es : List (List AV)) (v : Value) : Prop :=
  (es = [] ∧ v = .slice none 0 0 ∧ bs = []) ∨
  ∃ g cap cur, bs = [g] ∧ v = .slice (some ⟨g, 0, none⟩) es.length cap ∧ w.heap[g]? = some (.cells cur e (0, 0)) ∧ es.length ≤ cap ∧ cap ≤ maxLen ∧ cur.size = cap * s ∧ RowRel H s es cur 0
/-- a box, or a fixed row, behind a pointer -/
def OwnP (H : Imm) (w : World) (bs : List Nat) (e s : Nat) (es : List (List AV)) (v : Value) : Prop :=
  ∃ g cur, bs = [g] ∧ v = .pointer (some ⟨g, 0, none⟩) ∧ w.heap[g]? = some (.cells cur e (0, 0)) ∧ cur.size = es.length * s ∧ RowRel H s es cur 0
/-- An object that is told by what a predicate says of its own blocks alone. -/
def Stable (R : World → List Nat → Value → Prop) : Prop := ∀ w w' bs v, (∀ g, g ∈ bs → w'.heap[g]? = w.heap[g]?) → R w bs v → R w' bs v

theorem OwnS.keep {H H' : Imm} {w w' : World} {bs e s es v} (h : OwnS H w bs e s es v) (hH : H.le H') (hb : ∀ g, g ∈ bs → w'.heap[g]? = w.heap[g]?) : OwnS H' w' bs e s es v := by
  rcases h with h | ⟨g, cap, cur, rfl, rfl, hg, h1, h2, h3, hr⟩
  · exact .inl h
  · exact .inr ⟨g, cap, cur, rfl, rfl, (hb g (by simp)).trans hg, h1, h2, h3, hr.mono hH⟩
theorem OwnP.keep {H H' : Imm} {w w' : World} {bs e s es v} (h : OwnP H w bs e s es v) (hH : H.le H') (hb : ∀ g, g ∈ bs → w'.heap[g]? = w.heap[g]?) : OwnP H' w' bs e s es v := by
  obtain ⟨g, cur, rfl, rfl, hg, h1, hr⟩ := h
  exact ⟨g, cur, rfl, rfl, (hb g (by simp)).trans hg, h1, hr.mono hH⟩

/-- An owner, or what is read. -/
def Held (H : Imm) (w : World) (bs : List Nat) (x : AV) (v : Value) : Prop :=
  match x with
  | .ow e s es => OwnS H w bs e s es v
  | .bx e s es => OwnP H w bs e s es v
  | .op R => R w bs v ∧ Stable R
  | .rf _ | .rp .. | .rs .. => False
  | .junk => True
  | x => V H x v
theorem Held.keep {H H' : Imm} {w w' : World} {bs x v} (h : Held H w bs x v) (hH : H.le H') (hb : ∀ g, g ∈ bs → w'.heap[g]? = w.heap[g]?) : Held H' w' bs x v := by
  cases x <;> simp only [Held] at h ⊢ <;> first
    | exact h.mono hH
    | exact OwnS.keep h hH hb
    | exact OwnP.keep h hH hb
    | exact ⟨h.2 _ _ _ _ hb h.1, h.2⟩
    | exact h
theorem Held.of_V {H : Imm} {w : World} {bs x v} (h : V H x v) : Held H w bs x v := by cases x <;> first | exact h | cases h
theorem Held.to_V {H : Imm} {w : World} {bs x v} (h : Held H w bs x v) (hp : x.pers = true) : V H x v := by cases x <;> first | exact h | cases hp

def AV.esz : AV → Nat
  | .ow _ s _ | .bx _ s _ => s
  | _ => 0
def AV.els : AV → List (List AV)
  | .ow _ _ es | .bx _ _ es => es
  | _ => []

/-- What a slot of the frame holds. -/
def SOK (H : Imm) (w : World) (γ : Nat → List Nat) (S : Nat → AV) (tmps : Array Value) (i : Nat) (v : Value) : Prop :=
  match S i with
  | .rf k => (S k).owner = true ∧ tmps[k]? = some v
  | .rp k j o => ∃ g, γ k = [g] ∧ v = .pointer (some ⟨g, j * (S k).esz + o, none⟩)
  | .rs k a n => ∃ e s es, S k = .ow e s es ∧ a + n ≤ es.length ∧ ((γ k = [] ∧ v = .slice none 0 0 ∧ n = 0) ∨ ∃ g off cap, γ k = [g] ∧ n ≤ cap ∧ v = .slice (some ⟨g, off, none⟩) n cap ∧ (n ≠ 0 → off = a * s))
  | x => Held H w (γ i) x v

structure Fr (w0 : World) (E : List Nat) (w : World) : Prop where
  os : w.os = w0.os
  tape : w.tape = w0.tape
  output : w.output = w0.output
  size : w0.heap.size ≤ w.heap.size
  blk : ∀ g, g < w0.heap.size → g ∉ E → w.heap[g]? = w0.heap[g]?
theorem Fr.refl (w : World) (E : List Nat) : Fr w E w := ⟨rfl, rfl, rfl, Nat.le_refl _, fun _ _ _ => rfl⟩

structure Ctx where
  w0 : World
  E : List Nat
  H0 : Imm
  Kp : List Nat
  vs : Array Value
  n : Nat

structure Rel (C : Ctx) (H : Imm) (γ : Nat → List Nat) (S : Nat → AV) (tmps : Array Value) (w : World) : Prop where
  slot : ∀ i v, tmps[i]? = some v → SOK H w γ S tmps i v
  out : ∀ i, tmps.size ≤ i → S i = .junk
  imm : ∀ g o, H g = some o → w.heap[g]? = some o
  nown : ∀ i, (S i).owner = false → γ i = []
  own : ∀ i g, g ∈ γ i → H g = none ∧ g < w.heap.size ∧ (C.w0.heap.size ≤ g ∨ g ∈ C.E)
  disj : ∀ i j g, g ∈ γ i → g ∈ γ j → i = j
  le0 : C.H0.le H
  new : ∀ g o, H g = some o → C.H0 g = some o ∨ C.w0.heap.size ≤ g ∨ g ∈ C.E
  fr : Fr C.w0 C.E w
  kept : ∀ j, j ∈ C.Kp → tmps[j]? = C.vs[j]?
  sz : tmps.size = C.n

/-- A slot is written: whoever referred to it refers to nothing. -/
def unref (d : Nat) : AV → AV
  | .rf k => if k = d then .junk else .rf k
  | .rp k i o => if k = d then .junk else .rp k i o
  | .rs k a n => if k = d then .junk else .rs k a n
  | x => x
def put (S : Nat → AV) (d : Nat) (x : AV) : Nat → AV := fun i => if i = d then x else unref d (S i)
def updN (γ : Nat → List Nat) (d : Nat) (l : List Nat) : Nat → List Nat := fun i => if i = d then l else γ i

theorem unref_owner (d : Nat) (x : AV) : (unref d x).owner = x.owner := by
  cases x <;> simp only [unref] <;> first | rfl | (split <;> rfl)
theorem unref_of_not_ref {d : Nat} {x : AV} (h : x.isRef = false) : unref d x = x := by cases x <;> first | rfl | cases h

theorem SOK_of_held {H : Imm} {w : World} {γ : Nat → List Nat} {S : Nat → AV} {tmps : Array Value} {i : Nat} {v : Value} (hr : (S i).isRef = false) : SOK H w γ S tmps i v ↔ Held H w (γ i) (S i) v := by
  unfold SOK
  cases h : S i <;> rw [h] at hr <;> first | rfl | cases hr

end Go.Proofs.YtcmaledchnhccaaGreatDoor

/-! How the relation of abstract slots to a frame is kept by each change. No condition. -/
namespace Go.Proofs.YtcmaledchnhccaaGreatDoor
open Go Go.RowKit

def ShapeEq : AV → AV → Prop
  | .ow e s es, .ow e' s' es' => e = e' ∧ s = s' ∧ es.length = es'.length
  | .bx e s es, .bx e' s' es' => e = e' ∧ s = s' ∧ es.length = es'.length
  | .op _, .op _ => True
  | x, y => x = y
theorem ShapeEq.refl (x : AV) : ShapeEq x x := by cases x <;> simp [ShapeEq]
theorem ShapeEq.owner {x y : AV} (h : ShapeEq x y) : y.owner = x.owner := by
  cases x <;> cases y <;> simp_all [ShapeEq, AV.owner]
theorem ShapeEq.esz {x y : AV} (h : ShapeEq x y) : y.esz = x.esz := by
  cases x <;> cases y <;> simp_all [ShapeEq, AV.esz]
theorem ShapeEq.ow {e s es} {y : AV} (h : ShapeEq (.ow e s es) y) : ∃ es', y = .ow e s es' ∧ es'.length = es.length := by
  cases y <;> simp_all [ShapeEq]

theorem SOK.keep {H H' : Imm} {w w' : World} {γ γ' : Nat → List Nat} {S S' : Nat → AV} {tmps tmps' : Array Value} {i : Nat} {v : Value} (h : SOK H w γ S tmps i v)
    (hS : S' i = S i) (hγ : γ' i = γ i) (hH : H.le H') (hb : ∀ g, g ∈ γ i → w'.heap[g]? = w.heap[g]?)
    (hk : ∀ k, (S i).refTo k = true → ShapeEq (S k) (S' k) ∧ γ' k = γ k ∧ tmps'[k]? = tmps[k]?) : SOK H' w' γ' S' tmps' i v := by
  unfold SOK at h ⊢
  rw [hS]
  cases hi : S i with
  | rf k =>
    rw [hi] at h hk
    simp only at h ⊢
    obtain ⟨h1, h2, h3⟩ := hk k (by simp [AV.refTo])
    exact ⟨h1.owner.trans h.1, h3.trans h.2⟩
  | rp k j o =>
    rw [hi] at h hk
    simp only at h ⊢
    obtain ⟨h1, h2, h3⟩ := hk k (by simp [AV.refTo])
    obtain ⟨g, hg, hv⟩ := h
    exact ⟨g, h2.trans hg, by rw [h1.esz]; exact hv⟩
  | rs k a n =>
    rw [hi] at h hk
    simp only at h ⊢
    obtain ⟨h1, h2, h3⟩ := hk k (by simp [AV.refTo])
    obtain ⟨e, s, es, he, hl, hr⟩ := h
    rw [he] at h1
    obtain ⟨es', he', hl'⟩ := h1.ow
    exact ⟨e, s, es', he', by omega, by rw [h2]; exact hr⟩
  | _ =>
    rw [hi] at h
    simp only at h ⊢
    rw [hγ]
    exact Held.keep h hH hb

theorem unref_cases (d : Nat) (x : AV) : (x.refTo d = true ∧ unref d x = .junk) ∨ (x.refTo d = false ∧ unref d x = x) := by
  cases x with
  | rf k => by_cases h : k = d <;> simp [unref, AV.refTo, h]
  | rp k i o => by_cases h : k = d <;> simp [unref, AV.refTo, h]
  | rs k a n => by_cases h : k = d <;> simp [unref, AV.refTo, h]
  | _ => exact .inr ⟨rfl, rfl⟩
theorem put_self (S : Nat → AV) (d : Nat) (x : AV) : put S d x d = x := by simp [put]
theorem put_other {S : Nat → AV} {d i : Nat} (h : i ≠ d) (x : AV) : put S d x i = unref d (S i) := by simp [put, h]
theorem put_owner {S : Nat → AV} {d i : Nat} (h : i ≠ d) (x : AV) : (put S d x i).owner = (S i).owner := by rw [put_other h, unref_owner]
theorem unref_of_owner {d : Nat} {x : AV} (h : x.owner = true) : unref d x = x := by cases x <;> first | rfl | cases h
theorem put_shape {S : Nat → AV} {d i : Nat} (h : i ≠ d) (x : AV) (ho : (S i).owner = true) : put S d x i = S i := by rw [put_other h, unref_of_owner ho]

theorem SOK.owner_of_ref {H : Imm} {w : World} {C : Ctx} {γ S tmps} (R : Rel C H γ S tmps w) {i v k} (h : SOK H w γ S tmps i v) (hr : (S i).refTo k = true) : (S k).owner = true := by
  unfold SOK at h
  cases hi : S i <;> rw [hi] at h hr <;> simp only [AV.refTo] at hr <;> first | cases hr | skip
  · rename_i j
    have : j = k := by simpa using hr
    subst this
    exact h.1
  · rename_i j a o
    have : j = k := by simpa using hr
    subst this
    obtain ⟨g, hg, _⟩ := h
    cases ho : (S j).owner with
    | true => rfl
    | false => rw [R.nown j ho] at hg; cases hg
  · rename_i j a o
    have : j = k := by simpa using hr
    subst this
    obtain ⟨e, s, es, he, _⟩ := h
    rw [he]; rfl

theorem arr_set_get {α : Type} (a : Array α) (d i : Nat) (v : α) (hd : d < a.size) : (a.setIfInBounds d v)[i]? = if i = d then some v else a[i]? := by
  rw [Array.getElem?_setIfInBounds]
  by_cases h : d = i
  · subst h; simp [hd]
  · simp [h, Ne.symm h]

section
variable {C : Ctx} {H H' : Imm} {γ : Nat → List Nat} {S : Nat → AV} {tmps : Array Value} {w w' : World} {d : Nat} {x : AV} {v : Value}

/-- A slot is written, whatever is written; its own blocks (bs) are new to the frame. -/
theorem Rel.put_gen (R : Rel C H γ S tmps w) {bs : List Nat} (hd : d < tmps.size) (hk : d ∉ C.Kp)
    (hx : SOK H w (updN γ d bs) (put S d x) (tmps.setIfInBounds d v) d v) (hno : x.owner = false → bs = [])
    (hown : ∀ g, g ∈ bs → H g = none ∧ g < w.heap.size ∧ (C.w0.heap.size ≤ g ∨ g ∈ C.E)) (hdis : ∀ i g, i ≠ d → g ∈ γ i → g ∉ bs) :
    Rel C H (updN γ d bs) (put S d x) (tmps.setIfInBounds d v) w where
  slot := by
    intro i u hu
    rw [arr_set_get _ _ _ _ hd] at hu
    by_cases hi : i = d
    · subst hi
      rw [if_pos rfl] at hu
      cases hu
      exact hx
    · rw [if_neg hi] at hu
      have h0 := R.slot i u hu
      rcases unref_cases d (S i) with ⟨h1, h2⟩ | ⟨h1, h2⟩
      · unfold SOK
        rw [put_other hi, h2]
        trivial
      · refine h0.keep (by rw [put_other hi, h2]) (by simp [updN, hi]) (Imm.le_refl _) (fun _ _ => rfl) (fun k hk' => ?_)
        have hkd : k ≠ d := by rintro rfl; rw [h1] at hk'; cases hk'
        have ho := h0.owner_of_ref R hk'
        refine ⟨by rw [put_shape hkd _ ho]; exact ShapeEq.refl _, by simp [updN, hkd], ?_⟩
        rw [arr_set_get _ _ _ _ hd, if_neg hkd]
  out := by
    intro i hi
    rw [Array.size_setIfInBounds] at hi
    rw [put_other (by omega), R.out i hi]
    rfl
  imm := R.imm
  nown := by
    intro i hi
    by_cases h : i = d
    · subst h
      rw [put_self] at hi
      simp [updN, hno hi]
    · rw [put_owner h] at hi
      simp [updN, h, R.nown i hi]
  own := by
    intro i g hg
    by_cases h : i = d
    · simp only [updN, h, if_true] at hg
      exact hown g hg
    · simp only [updN, h, if_false] at hg
      exact R.own i g hg
  disj := by
    intro i j g hi hj
    by_cases h : i = d <;> by_cases h' : j = d
    · omega
    · simp only [updN, h, h', if_true, if_false] at hi hj
      exact absurd hi (hdis j g h' hj)
    · simp only [updN, h, h', if_true, if_false] at hi hj
      exact absurd hj (hdis i g h hi)
    · simp only [updN, h, h', if_false] at hi hj
      exact R.disj i j g hi hj
  le0 := R.le0
  new := R.new
  fr := R.fr
  kept := by
    intro j hj
    rw [arr_set_get _ _ _ _ hd, if_neg (by rintro rfl; exact hk hj)]
    exact R.kept j hj
  sz := by rw [Array.size_setIfInBounds]; exact R.sz

theorem Rel.put_pers (R : Rel C H γ S tmps w) (hd : d < tmps.size) (hk : d ∉ C.Kp) (hv : V H x v) :
    Rel C H (updN γ d []) (put S d x) (tmps.setIfInBounds d v) w :=
  R.put_gen hd hk ((SOK_of_held (by rw [put_self]; have := hv.pers; cases x <;> first | rfl | cases this)).2 (by rw [put_self]; exact Held.of_V hv)) (fun _ => rfl) (by simp) (by simp)

theorem Rel.put_junk (R : Rel C H γ S tmps w) (hd : d < tmps.size) (hk : d ∉ C.Kp) (v : Value) :
    Rel C H (updN γ d []) (put S d .junk) (tmps.setIfInBounds d v) w :=
  R.put_gen hd hk ((SOK_of_held (by rw [put_self]; rfl)).2 (by rw [put_self]; exact trivial)) (fun _ => rfl) (by simp) (by simp)

/-- the world grows; what is owned or read stays -/
theorem Rel.world (R : Rel C H γ S tmps w) (hw : Below w.heap.size w w') : Rel C H γ S tmps w' where
  slot := fun i v hv => (R.slot i v hv).keep rfl rfl (Imm.le_refl _) (fun g hg => hw.block g (R.own i g hg).2.1) (fun k _ => ⟨ShapeEq.refl _, rfl, rfl⟩)
  out := R.out
  imm := fun g o h => by
    have h1 := R.imm g o h
    rw [hw.block g (Array.getElem?_eq_some_iff.1 h1).1]
    exact h1
  nown := R.nown
  own := fun i g hg => let ⟨a, b, c⟩ := R.own i g hg; ⟨a, Nat.lt_of_lt_of_le b hw.size, c⟩
  disj := R.disj
  le0 := R.le0
  new := R.new
  fr := ⟨hw.os.trans R.fr.os, hw.tape.trans R.fr.tape, hw.output.trans R.fr.output, Nat.le_trans R.fr.size hw.size,
    fun g hg hE => (hw.block g (Nat.lt_of_lt_of_le hg R.fr.size)).trans (R.fr.blk g hg hE)⟩
  kept := R.kept
  sz := R.sz

/-- more is known to stay -/
theorem Rel.imm_more (R : Rel C H γ S tmps w) (hH : H.le H') (himm : ∀ g o, H' g = some o → w.heap[g]? = some o) (hno : ∀ i g, g ∈ γ i → H' g = none)
    (hnew : ∀ g o, H' g = some o → H g = some o ∨ C.w0.heap.size ≤ g ∨ g ∈ C.E) : Rel C H' γ S tmps w where
  slot := fun i v hv => (R.slot i v hv).keep rfl rfl hH (fun _ _ => rfl) (fun _ _ => ⟨ShapeEq.refl _, rfl, rfl⟩)
  out := R.out
  imm := himm
  nown := R.nown
  own := fun i g hg => let ⟨_, b, c⟩ := R.own i g hg; ⟨hno i g hg, b, c⟩
  disj := R.disj
  le0 := Imm.le_trans R.le0 hH
  new := fun g o h => (hnew g o h).elim (R.new g o) .inr
  fr := R.fr
  kept := R.kept
  sz := R.sz

end

end Go.Proofs.YtcmaledchnhccaaGreatDoor

/-! More changes that keep the relation: what is owned is dropped, frozen, written, made, handed on. No condition. -/
namespace Go.Proofs.YtcmaledchnhccaaGreatDoor
open Go Go.RowKit

def upd (S : Nat → AV) (k : Nat) (y : AV) : Nat → AV := fun i => if i = k then y else S i
theorem upd_self (S : Nat → AV) (k : Nat) (y : AV) : upd S k y k = y := by simp [upd]
theorem upd_other {S : Nat → AV} {k i : Nat} (h : i ≠ k) (y : AV) : upd S k y i = S i := by simp [upd, h]
theorem ShapeEq.isRef {x y : AV} (h : ShapeEq x y) : y.isRef = x.isRef := by cases x <;> cases y <;> simp_all [ShapeEq, AV.isRef]

section
variable {C : Ctx} {H H' : Imm} {γ : Nat → List Nat} {S : Nat → AV} {tmps : Array Value} {w w' : World} {k : Nat} {v : Value}

theorem Rel.free_lt (R : Rel C H γ S tmps w) {g : Nat} {o : Obj} (h : H g = some o) : g < w.heap.size := (Array.getElem?_eq_some_iff.1 (R.imm g o h)).1
theorem Rel.fresh_H (R : Rel C H γ S tmps w) {g : Nat} (h : w.heap.size ≤ g) : H g = none := by
  cases hg : H g with
  | none => rfl
  | some o => exact absurd (R.free_lt hg) (by omega)

/-- An owner lets go: its slot, and whoever referred to it, hold nothing. -/
theorem Rel.drop (R : Rel C H γ S tmps w) (k : Nat) : Rel C H (updN γ k []) (put S k .junk) tmps w where
  slot := by
    intro i u hu
    by_cases hi : i = k
    · subst hi
      rw [SOK_of_held (by rw [put_self]; rfl), put_self]
      trivial
    · have h0 := R.slot i u hu
      rcases unref_cases k (S i) with ⟨h1, h2⟩ | ⟨h1, h2⟩
      · unfold SOK
        rw [put_other hi, h2]
        trivial
      · refine h0.keep (by rw [put_other hi, h2]) (by simp [updN, hi]) (Imm.le_refl _) (fun _ _ => rfl) (fun j hj => ?_)
        have hjk : j ≠ k := by rintro rfl; rw [h1] at hj; cases hj
        have ho := h0.owner_of_ref R hj
        exact ⟨by rw [put_shape hjk _ ho]; exact ShapeEq.refl _, by simp [updN, hjk], rfl⟩
  out := by
    intro i hi
    by_cases h : i = k
    · subst h; exact put_self ..
    · rw [put_other h, R.out i hi]; rfl
  imm := R.imm
  nown := by
    intro i hi
    by_cases h : i = k
    · simp [updN, h]
    · rw [put_owner h] at hi
      simp [updN, h, R.nown i hi]
  own := by
    intro i g hg
    by_cases h : i = k
    · simp [updN, h] at hg
    · simp only [updN, h, if_false] at hg
      exact R.own i g hg
  disj := by
    intro i j g hi hj
    by_cases h : i = k
    · simp [updN, h] at hi
    · by_cases h' : j = k
      · simp [updN, h'] at hj
      · simp only [updN, h, h', if_false] at hi hj
        exact R.disj i j g hi hj
  le0 := R.le0
  new := R.new
  fr := R.fr
  kept := R.kept
  sz := R.sz

/-- The world changes where nobody looks. -/
theorem Rel.world_free (R : Rel C H γ S tmps w) (free : Nat → Prop) (hf : ∀ g, g < w.heap.size → free g → H g = none ∧ (∀ i, g ∉ γ i) ∧ (C.w0.heap.size ≤ g ∨ g ∈ C.E))
    (hb : ∀ g, g < w.heap.size → ¬ free g → w'.heap[g]? = w.heap[g]?) (hos : w'.os = w.os) (htape : w'.tape = w.tape) (hout : w'.output = w.output) (hsz : w.heap.size ≤ w'.heap.size) : Rel C H γ S tmps w' where
  slot := fun i u hu => (R.slot i u hu).keep rfl rfl (Imm.le_refl _) (fun g hg => hb g (R.own i g hg).2.1 (fun hfr => (hf g (R.own i g hg).2.1 hfr).2.1 i hg)) (fun _ _ => ⟨ShapeEq.refl _, rfl, rfl⟩)
  out := R.out
  imm := fun g o h => by
    have hlt := R.free_lt h
    rw [hb g hlt (fun hfr => by have := (hf g hlt hfr).1; rw [h] at this; cases this)]
    exact R.imm g o h
  nown := R.nown
  own := fun i g hg => let ⟨a, b, c⟩ := R.own i g hg; ⟨a, Nat.lt_of_lt_of_le b hsz, c⟩
  disj := R.disj
  le0 := R.le0
  new := R.new
  fr := ⟨hos.trans R.fr.os, htape.trans R.fr.tape, hout.trans R.fr.output, Nat.le_trans R.fr.size hsz, fun g hg hE => by
    rw [hb g (Nat.lt_of_lt_of_le hg R.fr.size) (fun hfr => by rcases (hf g (Nat.lt_of_lt_of_le hg R.fr.size) hfr).2.2 with h | h; · omega
                                                              · exact hE h)]
    exact R.fr.blk g hg hE⟩
  kept := R.kept
  sz := R.sz

/-- What an owner holds is written. -/
theorem Rel.own_upd (R : Rel C H γ S tmps w) (hk : tmps[k]? = some v) (ho : (S k).owner = true) {y : AV} (hsh : ShapeEq (S k) y) (hh : Held H w' (γ k) y v)
    (hb : ∀ g, g < w.heap.size → g ∉ γ k → w'.heap[g]? = w.heap[g]?) (hos : w'.os = w.os) (htape : w'.tape = w.tape) (hout : w'.output = w.output) (hsz : w.heap.size ≤ w'.heap.size) :
    Rel C H γ (upd S k y) tmps w' where
  slot := by
    intro i u hu
    by_cases hi : i = k
    · subst hi
      rw [hk] at hu
      cases hu
      have hr : y.isRef = false := by rw [hsh.isRef]; cases hS : S i <;> rw [hS] at ho <;> first | rfl | cases ho
      rw [SOK_of_held (by rw [upd_self]; exact hr), upd_self]
      exact hh
    · refine (R.slot i u hu).keep (upd_other hi _) rfl (Imm.le_refl _) (fun g hg => hb g (R.own i g hg).2.1 (fun hgk => hi (R.disj i k g hg hgk))) (fun j _ => ⟨?_, rfl, rfl⟩)
      by_cases hj : j = k
      · subst hj; rw [upd_self]; exact hsh
      · rw [upd_other hj]; exact ShapeEq.refl _
  out := by
    intro i hi
    by_cases h : i = k
    · subst h
      rw [R.out i hi] at ho; cases ho
    · rw [upd_other h]; exact R.out i hi
  imm := fun g o h => by
    have hlt := R.free_lt h
    rw [hb g hlt (fun hg => by have := (R.own k g hg).1; rw [h] at this; cases this)]
    exact R.imm g o h
  nown := by
    intro i hi
    by_cases h : i = k
    · subst h
      rw [upd_self, hsh.owner, ho] at hi; cases hi
    · rw [upd_other h] at hi; exact R.nown i hi
  own := fun i g hg => let ⟨a, b, c⟩ := R.own i g hg; ⟨a, Nat.lt_of_lt_of_le b hsz, c⟩
  disj := R.disj
  le0 := R.le0
  new := R.new
  fr := ⟨hos.trans R.fr.os, htape.trans R.fr.tape, hout.trans R.fr.output, Nat.le_trans R.fr.size hsz, fun g hg hE => by
    rw [hb g (Nat.lt_of_lt_of_le hg R.fr.size) (fun hgk => by rcases (R.own k g hgk).2.2 with h | h; · omega
                                                              · exact hE h)]
    exact R.fr.blk g hg hE⟩
  kept := R.kept
  sz := R.sz

/-- Frozen: what was owned is read from now on; whoever referred to it reads it, too. -/
def frz : AV → AV
  | .ow _ s es => .sl s es
  | .bx _ s es => .ip s es 0 0
  | x => x
def frzRef (S : Nat → AV) (k : Nat) (x : AV) : AV :=
  match x, S k with
  | .rf j, y => if j = k then frz y else .rf j
  | .rp j i o, y => if j = k then .ip y.esz y.els i o else .rp j i o
  | .rs j a n, y => if j = k then .sl y.esz ((y.els.drop a).take n) else .rs j a n
  | x, _ => x
def frzS (S : Nat → AV) (k : Nat) : Nat → AV := fun i => if i = k then frz (S k) else frzRef S k (S i)
def AV.plain : AV → Bool
  | .ow .. | .bx .. => true
  | _ => false

theorem frzRef_cases (S : Nat → AV) (k : Nat) (x : AV) : (x.refTo k = true ∧ x.isRef = true) ∨ (x.refTo k = false ∧ frzRef S k x = x) := by
  cases x with
  | rf j => by_cases h : j = k <;> simp [frzRef, AV.refTo, AV.isRef, h]
  | rp j i o => by_cases h : j = k <;> simp [frzRef, AV.refTo, AV.isRef, h]
  | rs j a n => by_cases h : j = k <;> simp [frzRef, AV.refTo, AV.isRef, h]
  | _ => exact .inr ⟨rfl, rfl⟩
theorem frzRef_owner (S : Nat → AV) (k : Nat) (x : AV) (h : x.isRef = false) : frzRef S k x = x := by cases x <;> first | rfl | cases h

theorem RowRel.sub {H : Imm} {s es cur off} (r : RowRel H s es cur off) (a n : Nat) : RowRel H s ((es.drop a).take n) cur (off + a * s) := by
  refine ⟨fun e he => r.1 e (List.mem_of_mem_drop (List.mem_of_mem_take he)), fun i e t x he hx => ?_⟩
  rw [List.getElem?_take] at he
  split at he
  · rw [List.getElem?_drop] at he
    obtain ⟨h1, c, hc, hv⟩ := r.2 (a + i) e t x he hx
    refine ⟨h1, c, ?_, hv⟩
    rw [← hc]; congr 1
    rw [Nat.add_mul]; omega
  · cases he

/-- An owner's row, as what stays. -/
theorem V_of_own {H H' : Imm} {w : World} {bs : List Nat} {x : AV} {v : Value} (hx : x.plain = true) (h : Held H w bs x v) (hH : H.le H') (hg : ∀ g, g ∈ bs → H' g = w.heap[g]?) : V H' (frz x) v := by
  cases x <;> first | cases hx | skip
  · rename_i e s es
    rcases h with ⟨rfl, rfl, rfl⟩ | ⟨g, cap, cur, rfl, rfl, hh, h1, h2, h3, hr⟩
    · exact .sl0 s
    · refine V_sl_iff.2 (.inr ⟨g, 0, cap, cur, e, (0, 0), rfl, (hg g (by simp)).trans hh, h1, fun _ => ?_, hr.mono hH⟩)
      rw [h3, Nat.zero_add]
      exact Nat.mul_le_mul_right _ h1
  · rename_i e s es
    obtain ⟨g, cur, rfl, rfl, hh, h1, hr⟩ := h
    exact V_ip_iff.2 ⟨g, 0, cur, e, (0, 0), by simp, (hg g (by simp)).trans hh, by omega, hr.mono hH⟩

def addImm (H : Imm) (w : World) (bs : List Nat) : Imm := fun g => if g ∈ bs then w.heap[g]? else H g
theorem addImm_le {H : Imm} {w : World} {bs : List Nat} (h : ∀ g, g ∈ bs → H g = none) : H.le (addImm H w bs) := by
  intro g o hg
  unfold addImm
  split
  · rename_i hm; rw [h g hm] at hg; cases hg
  · exact hg

theorem V_of_rs {H H' : Imm} {w : World} {bs : List Nat} {e s : Nat} {es : List (List AV)} {v0 v : Value} {a n : Nat} (h : OwnS H w bs e s es v0) (hl : a + n ≤ es.length)
    (hr : (bs = [] ∧ v = .slice none 0 0 ∧ n = 0) ∨ ∃ g off cap, bs = [g] ∧ n ≤ cap ∧ v = .slice (some ⟨g, off, none⟩) n cap ∧ (n ≠ 0 → off = a * s)) (hH : H.le H') (hg : ∀ g, g ∈ bs → H' g = w.heap[g]?) : V H' (.sl s ((es.drop a).take n)) v := by
  rcases hr with ⟨hb, rfl, rfl⟩ | ⟨g, off, cap, hb, hc, rfl, hoff⟩
  · simp only [List.take_zero]; exact .sl0 s
  · rcases h with ⟨rfl, _, hb'⟩ | ⟨g', cap', cur, hb', _, hh, b1, b2, b3, hrr⟩
    · rw [hb] at hb'; cases hb'
    · rw [hb] at hb'; cases hb'
      have hlen : ((es.drop a).take n).length = n := by simp; omega
      have hv := V_sl_iff (H := H') (s := s) (es := (es.drop a).take n) (v := .slice (some ⟨g, off, none⟩) ((es.drop a).take n).length cap)
      rw [hlen] at hv
      by_cases hn : n = 0
      · subst hn
        refine hv.2 (.inr ⟨g, off, cap, cur, e, (0, 0), rfl, (hg g (by rw [hb]; simp)).trans hh, hc, fun h => absurd (by simp) h, ?_⟩)
        simp only [List.take_zero]
        exact ⟨by simp, by simp⟩
      · have := hoff hn
        subst this
        refine hv.2 (.inr ⟨g, a * s, cap, cur, e, (0, 0), rfl, (hg g (by rw [hb]; simp)).trans hh, hc, fun _ => ?_, ?_⟩)
        · rw [b3, ← Nat.add_mul]; exact Nat.mul_le_mul_right _ (by omega)
        · have := (hrr.mono hH).sub a n
          simpa using this

theorem Rel.freeze (R : Rel C H γ S tmps w) (k : Nat) (hp : (S k).plain = true) : Rel C (addImm H w (γ k)) (updN γ k []) (frzS S k) tmps w := by
  have hle : H.le (addImm H w (γ k)) := addImm_le (fun g hg => (R.own k g hg).1)
  have hin : ∀ g, g ∈ γ k → addImm H w (γ k) g = w.heap[g]? := fun g hg => by simp [addImm, hg]
  have hok : (S k).owner = true := by cases hS : S k <;> rw [hS] at hp <;> first | rfl | cases hp
  have hkr : (S k).isRef = false := by cases hS : S k <;> rw [hS] at hp <;> first | rfl | cases hp
  have hfo : (frz (S k)).owner = false := by cases hS : S k <;> rw [hS] at hp <;> first | rfl | cases hp
  have hfr : (frz (S k)).isRef = false := by cases hS : S k <;> rw [hS] at hp <;> first | rfl | cases hp
  have howner : ∀ i, i ≠ k → (frzS S k i).owner = (S i).owner := by
    intro i hi
    simp only [frzS, hi, if_false]
    rcases frzRef_cases S k (S i) with ⟨h1, h2⟩ | ⟨_, h2⟩
    · cases hS : S i <;> rw [hS] at h1 h2 <;> simp only [AV.isRef] at h2 <;> first | cases h2 | skip
      all_goals
        simp only [AV.refTo, beq_iff_eq] at h1
        simp only [frzRef, h1, if_true, AV.owner]
      exact hfo
    · rw [h2]
  refine ⟨?_, ?_, ?_, ?_, ?_, ?_, ?_, ?_, R.fr, R.kept, R.sz⟩
  · intro i u hu
    by_cases hi : i = k
    · subst hi
      have h0 := (SOK_of_held hkr).1 (R.slot i u hu)
      have := V_of_own hp h0 hle hin
      rw [SOK_of_held (by simp only [frzS, if_true]; exact hfr)]
      simp only [frzS, if_true]
      exact Held.of_V this
    · have h0 := R.slot i u hu
      rcases frzRef_cases S k (S i) with ⟨h1, h2⟩ | ⟨h1, h2⟩
      · have hsl : ∀ y, frzS S k i = y → V (addImm H w (γ k)) y u → SOK (addImm H w (γ k)) w (updN γ k []) (frzS S k) tmps i u := by
          intro y hy hv
          have := hv.pers
          rw [SOK_of_held (by rw [hy]; cases y <;> first | rfl | cases this), hy]
          exact Held.of_V hv
        have hs0 : frzS S k i = frzRef S k (S i) := by simp [frzS, hi]
        unfold SOK at h0
        cases hS : S i <;> rw [hS] at h0 h1 h2 <;> simp only [AV.isRef] at h2 <;> first | cases h2 | skip
        · rename_i j
          have hj : j = k := by simpa [AV.refTo] using h1
          subst hj
          refine hsl (frz (S j)) (by rw [hs0, hS]; simp [frzRef]) ?_
          exact V_of_own hp ((SOK_of_held hkr).1 (R.slot j u h0.2)) hle hin
        · rename_i j a o
          have hj : j = k := by simpa [AV.refTo] using h1
          subst hj
          refine hsl (.ip (S j).esz (S j).els a o) (by rw [hs0, hS]; simp [frzRef]) ?_
          obtain ⟨g, hg, rfl⟩ := h0
          have hlt : j < tmps.size := Nat.lt_of_not_le fun hle' => by have := R.out j hle'; rw [this] at hp; cases hp
          have hsl' := (SOK_of_held hkr).1 (R.slot j (tmps[j]) (by simp [hlt]))
          cases hSj : S j <;> rw [hSj] at hp hsl' <;> first | cases hp | skip
          · rename_i e s es
            rcases hsl' with ⟨rfl, _, hb⟩ | ⟨g', cap, cur, hb, _, hh, b1, b2, b3, hr⟩
            · rw [hg] at hb; cases hb
            · rw [hg] at hb; cases hb
              refine V_ip_iff.2 ⟨g, 0, cur, e, (0, 0), by simp [AV.esz], (hin g (by rw [hg]; simp)).trans hh, ?_, hr.mono hle⟩
              simp only [AV.els, AV.esz]
              rw [b3, Nat.zero_add]; exact Nat.mul_le_mul_right _ b1
          · rename_i e s es
            obtain ⟨g', cur, hb, _, hh, b1, hr⟩ := hsl'
            rw [hg] at hb; cases hb
            exact V_ip_iff.2 ⟨g, 0, cur, e, (0, 0), by simp [AV.esz], (hin g (by rw [hg]; simp)).trans hh, by simp only [AV.els, AV.esz]; omega, hr.mono hle⟩
        · rename_i j a n
          have hj : j = k := by simpa [AV.refTo] using h1
          subst hj
          refine hsl (.sl (S j).esz (((S j).els.drop a).take n)) (by rw [hs0, hS]; simp [frzRef]) ?_
          obtain ⟨e, s, es, he, hl, hr⟩ := h0
          have hlt : j < tmps.size := Nat.lt_of_not_le fun hle' => by have := R.out j hle'; rw [this] at hp; cases hp
          have hsl' := (SOK_of_held hkr).1 (R.slot j (tmps[j]) (by simp [hlt]))
          rw [he] at hsl' ⊢
          simp only [AV.els, AV.esz]
          exact V_of_rs hsl' hl hr hle hin
      · refine h0.keep (by simp only [frzS, hi, if_false]; exact h2) (by simp [updN, hi]) hle (fun _ _ => rfl) (fun j hj => ?_)
        have hjk : j ≠ k := by rintro rfl; rw [h1] at hj; cases hj
        have ho := h0.owner_of_ref R hj
        refine ⟨?_, by simp [updN, hjk], rfl⟩
        have : frzS S k j = S j := by
          simp only [frzS, hjk, if_false]
          exact frzRef_owner S k _ (by cases hS : S j <;> rw [hS] at ho <;> first | rfl | cases ho)
        rw [this]; exact ShapeEq.refl _
  · intro i hi
    have hik : i ≠ k := by rintro rfl; rw [R.out i hi] at hp; cases hp
    simp only [frzS, hik, if_false, R.out i hi, frzRef]
  · intro g o hg
    unfold addImm at hg
    split at hg
    · exact hg
    · exact R.imm g o hg
  · intro i hi
    by_cases h : i = k
    · simp [updN, h]
    · rw [howner i h] at hi
      simp [updN, h, R.nown i hi]
  · intro i g hg
    by_cases h : i = k
    · simp [updN, h] at hg
    · simp only [updN, h, if_false] at hg
      obtain ⟨a, b, c⟩ := R.own i g hg
      refine ⟨?_, b, c⟩
      unfold addImm
      rw [if_neg (fun hgk => h (R.disj i k g hg hgk))]
      exact a
  · intro i j g hi hj
    by_cases h : i = k
    · simp [updN, h] at hi
    · by_cases h' : j = k
      · simp [updN, h'] at hj
      · simp only [updN, h, h', if_false] at hi hj
        exact R.disj i j g hi hj
  · exact Imm.le_trans R.le0 hle
  · intro g o hg
    unfold addImm at hg
    split at hg
    · rename_i hm
      exact .inr (R.own k g hm).2.2
    · exact R.new g o hg
end

end Go.Proofs.YtcmaledchnhccaaGreatDoor

/-! The abstract meaning of operations that only compute, and that it is kept by the model. No condition. -/
namespace Go.Proofs.YtcmaledchnhccaaGreatDoor
open Go Go.RowKit

/-- A copy of what a slot holds: of an owner a reference. -/
def cp (t : Nat) : AV → AV
  | .ow .. => .rf t
  | .bx .. => .rf t
  | .op _ => .rf t
  | x => x
def ofConst : Value → AV
  | .int k n => .int k n
  | .bool b => .bool b
  | .string s => .str s.data.toList
  | .pointer none => .nilp
  | .slice none 0 0 => .sl 0 []
  | _ => .junk
def evA (S : Nat → AV) : Operand → AV
  | .tmp t => cp t (S t)
  | .const v => ofConst v
  | .func f => .fn f []
  | .global _ => .junk

/-- An operand's value, at a frame. -/
def AOK (H : Imm) (γ : Nat → List Nat) (S : Nat → AV) (tmps : Array Value) (x : AV) (v : Value) : Prop :=
  match x with
  | .rf k => (S k).owner = true ∧ tmps[k]? = some v
  | .rp k j o => ∃ g, γ k = [g] ∧ v = .pointer (some ⟨g, j * (S k).esz + o, none⟩)
  | .rs k a n => ∃ e s es, S k = .ow e s es ∧ a + n ≤ es.length ∧ ((γ k = [] ∧ v = .slice none 0 0 ∧ n = 0) ∨ ∃ g off cap, γ k = [g] ∧ n ≤ cap ∧ v = .slice (some ⟨g, off, none⟩) n cap ∧ (n ≠ 0 → off = a * s))
  | .junk => True
  | .ow .. | .bx .. | .op _ => False
  | x => V H x v
theorem AOK.pers {H γ S tmps x v} (h : AOK H γ S tmps x v) (hp : x.pers = true) : V H x v := by cases x <;> first | exact h | cases hp
theorem AOK.of_V {H : Imm} {γ S tmps x v} (h : V H x v) : AOK H γ S tmps x v := by cases x <;> first | exact h | cases h

section
variable {C : Ctx} {H : Imm} {γ : Nat → List Nat} {S : Nat → AV} {tmps : Array Value} {w w' : World} {P : Program}

theorem ofConst_ok (v : Value) : AOK H γ S tmps (ofConst v) v := by
  unfold ofConst
  split
  · exact .int _ _
  · exact .bool _
  · exact .str _
  · exact .nilp
  · exact .sl0 _
  · trivial
theorem cp_ok (R : Rel C H γ S tmps w) (t : Nat) : AOK H γ S tmps (cp t (S t)) (tmps.getD t undef) := by
  by_cases ht : t < tmps.size
  · have hg : tmps[t]? = some (tmps.getD t undef) := by simp [ht]
    have h := R.slot t _ hg
    unfold SOK at h
    cases hS : S t <;> rw [hS] at h <;> simp only [cp, AOK] <;> first | exact h | exact ⟨by rw [hS]; rfl, hg⟩ | trivial
  · rw [R.out t (by omega)]
    trivial
theorem evA_ok {a : Act} (R : Rel C H γ S a.tmps w) (x : Operand) : AOK H γ S a.tmps (evA S x) (a.eval x) := by
  cases x with
  | tmp t => exact cp_ok R t
  | const v => exact ofConst_ok v
  | global g => trivial
  | func f => exact V_fn_iff.2 ⟨#[], rfl, ⟨rfl, fun j x hx => by simp at hx⟩, fun j x hx => by simp at hx⟩

/-- What an operation hands back is put into its slot. -/
def retK (o : Oper) (S : Nat → AV) (K : (Nat → AV) → Prop) (x : AV) : Prop :=
  match o.dst with
  | some d => K (put S d (unref d x))
  | none => K S
def Good (C : Ctx) (o : Oper) : Prop := ∀ d, o.dst = some d → d < C.n ∧ d ∉ C.Kp
def Post (C : Ctx) (K : (Nat → AV) → Prop) (a : Act) (w : World) : Prop := a.defers = [] ∧ ∃ S H γ, K S ∧ Rel C H γ S a.tmps w

theorem put_ref (R : Rel C H γ S tmps w) {d : Nat} {x : AV} {v : Value} (hd : d < tmps.size) (hk : d ∉ C.Kp) (hx : AOK H γ S tmps x v) :
    Rel C H (updN γ d []) (put S d (unref d x)) (tmps.setIfInBounds d v) w := by
  rcases unref_cases d x with ⟨h1, h2⟩ | ⟨h1, h2⟩
  · rw [h2]; exact R.put_junk hd hk v
  · rw [h2]
    by_cases hp : x.pers = true
    · exact R.put_pers hd hk (hx.pers hp)
    · cases x <;> first | exact absurd rfl hp | exact hx.elim | skip
      · rename_i k
        have hkd : k ≠ d := by simpa [AV.refTo] using h1
        refine R.put_gen hd hk ?_ (fun _ => rfl) (by simp) (by simp)
        unfold SOK
        rw [put_self]
        simp only
        rw [put_owner hkd, arr_set_get _ _ _ _ hd, if_neg hkd]
        exact hx
      · rename_i k j o
        have hkd : k ≠ d := by simpa [AV.refTo] using h1
        refine R.put_gen hd hk ?_ (fun _ => rfl) (by simp) (by simp)
        unfold SOK
        rw [put_self]
        simp only
        obtain ⟨g, hg, hv⟩ := hx
        have ho : (S k).owner = true := by
          cases ho : (S k).owner with
          | true => rfl
          | false => rw [R.nown k ho] at hg; cases hg
        rw [put_shape hkd _ ho]
        exact ⟨g, by simp [updN, hkd, hg], hv⟩
      · rename_i k a n
        have hkd : k ≠ d := by simpa [AV.refTo] using h1
        refine R.put_gen hd hk ?_ (fun _ => rfl) (by simp) (by simp)
        unfold SOK
        rw [put_self]
        simp only
        obtain ⟨e, s, es, he, hr⟩ := hx
        rw [put_shape hkd _ (by rw [he]; rfl)]
        refine ⟨e, s, es, he, ?_⟩
        simp only [updN, hkd, if_false]
        exact hr
      · exact R.put_junk hd hk v

/-- An operation that hands back a value, the world perhaps grown. -/
theorem op_ret {o : Oper} {a : Act} {K : (Nat → AV) → Prop} {Q : Exit → Act → World → Prop} {x : AV} {v : Value} (hdf : a.defers = []) (hgo : Good C o)
    (hrun : (execOp a.eval o).run P w = .ok (.value v) w') (R : Rel C H γ S a.tmps w') (hx : AOK H γ S a.tmps x v) (hK : retK o S K x) : o.wp P a w (Post C K) Q := by
  unfold Oper.wp
  rw [hrun, Oper.upon_value]
  unfold retK at hK
  unfold Act.put
  cases hd : o.dst with
  | none => rw [hd] at hK; exact ⟨hdf, S, H, γ, hK, R⟩
  | some d =>
    rw [hd] at hK
    obtain ⟨h1, h2⟩ := hgo d hd
    exact ⟨hdf, _, H, _, hK, put_ref R (by rw [R.sz]; exact h1) h2 hx⟩
theorem op_skip {o : Oper} {a : Act} {K : (Nat → AV) → Prop} {Q : Exit → Act → World → Prop} (hdf : a.defers = []) (hdst : o.dst = none)
    (hrun : (execOp a.eval o).run P w = .ok .skip w') (R : Rel C H γ S a.tmps w') (hK : K S) : o.wp P a w (Post C K) Q := by
  unfold Oper.wp
  rw [hrun, Oper.upon_skip]
  unfold Act.put
  rw [hdst]
  exact ⟨hdf, S, H, γ, hK, R⟩

/-! ### Arithmetic, comparisons, strings -/
def aInt (op : BinOp) (k : IntKind) (a b : Int) (K : AV → Prop) : Prop :=
  match op with
  | .add => K (.int k (k.wrap (a + b)))
  | .sub => K (.int k (k.wrap (a - b)))
  | .mul => K (.int k (k.wrap (a * b)))
  | .quo => b ≠ 0 ∧ K (.int k (k.wrap (a.tdiv b)))
  | .rem => b ≠ 0 ∧ K (.int k (a.tmod b))
  | .and => K (.int k (k.wrap (BitVec.ofInt k.bits a &&& BitVec.ofInt k.bits b).toNat))
  | .or => K (.int k (k.wrap (BitVec.ofInt k.bits a ||| BitVec.ofInt k.bits b).toNat))
  | .xor => K (.int k (k.wrap (BitVec.ofInt k.bits a ^^^ BitVec.ofInt k.bits b).toNat))
  | .andNot => K (.int k (k.wrap (BitVec.ofInt k.bits a &&& ~~~BitVec.ofInt k.bits b).toNat))
  | .eql => K (.bool (decide (a = b)))
  | .neq => K (.bool (!decide (a = b)))
  | .lss => K (.bool (decide (a < b)))
  | .leq => K (.bool (decide (a ≤ b)))
  | .gtr => K (.bool (decide (b < a)))
  | .geq => K (.bool (decide (b ≤ a)))
  | _ => False
def aStr (op : BinOp) (a b : List UInt8) (K : AV → Prop) : Prop :=
  match op with
  | .add => a.length + b.length ≤ 9223372036854775807 ∧ K (.str (a ++ b))
  | .eql => K (.bool (decide (a = b)))
  | .neq => K (.bool (!decide (a = b)))
  | .lss => K (.bool (Op.bytesLess a b))
  | .leq => K (.bool (Op.bytesLess a b || decide (a = b)))
  | .gtr => K (.bool (!(Op.bytesLess a b || decide (a = b))))
  | .geq => K (.bool (!Op.bytesLess a b))
  | _ => False
end
end Go.Proofs.YtcmaledchnhccaaGreatDoor

/-! The abstract meaning of operations that only compute, and that it is kept by the model: arithmetic, comparisons. No condition. -/
namespace Go.Proofs.YtcmaledchnhccaaGreatDoor
open Go Go.RowKit

theorem run_bind_ok {P : Program} {α β : Type} {s : Sem α} {f : α → Sem β} {w w' : World} {a : α} (h : s.run P w = .ok a w') : (s >>= f).run P w = (f a).run P w' := by
  rw [Sem.run_bind, h]; rfl

theorem run_pure {P : Program} {α : Type} (a : α) (w : World) : (pure a : Sem α).run P w = .ok a w := rfl

theorem eqGuard_int (P : Program) (op T x y k a v w) : (eqGuard op T x y (.int k a) v).run P w = .ok () w := by
  unfold eqGuard
  cases op <;> rfl
theorem eqGuard_str (P : Program) (op T x y s v w) : (eqGuard op T x y (.string s) v).run P w = .ok () w := by
  unfold eqGuard
  cases op <;> rfl
theorem eqGuard_bool (P : Program) (op T x y s v w) : (eqGuard op T x y (.bool s) v).run P w = .ok () w := by
  unfold eqGuard
  cases op <;> rfl
theorem eqGuard_ptr (P : Program) (op T x y s v w) : (eqGuard op T x y (.pointer s) v).run P w = .ok () w := by
  unfold eqGuard
  cases op <;> rfl
theorem eqGuard_slice (P : Program) (op T x y s n c v w) : (eqGuard op T x y (.slice s n c) v).run P w = .ok () w := by
  unfold eqGuard
  cases op <;> rfl

theorem str_dec {a b : ByteArray} : (a.toList == b.toList) = decide (a.data.toList = b.data.toList) := by
  rw [ByteArray.toList_eq, ByteArray.toList_eq, Bool.eq_iff_iff, beq_iff_eq, decide_eq_true_iff]

section
variable {H : Imm} {P : Program} {w : World}

theorem run_aInt {op : BinOp} {k : IntKind} {a b : Int} {K : AV → Prop} (T : TypeId) (h : aInt op k a b K) : ∃ z v, (binOp op T (.int k a) (.int k b)).run P w = .ok v w ∧ V H z v ∧ K z := by
  have hb : ∀ (z : AV) (v : Value), (binOp op T (.int k a) (.int k b)).run P w = .ok v w → V H z v → K z → ∃ z v, (binOp op T (.int k a) (.int k b)).run P w = .ok v w ∧ V H z v ∧ K z := fun z v a b c => ⟨z, v, a, b, c⟩
  have e1 : (a == b) = decide (a = b) := by by_cases h : a = b <;> simp [h]
  have e2 : (a != b) = !decide (a = b) := by by_cases h : a = b <;> simp [h]
  cases op <;> simp only [aInt] at h
  case add => exact hb _ _ (by simp only [binOp, Op.intArith, ne_eq, not_true_eq_false, if_false]; rfl) (.int _ _) h
  case sub => exact hb _ _ (by simp only [binOp, Op.intArith, ne_eq, not_true_eq_false, if_false]; rfl) (.int _ _) h
  case mul => exact hb _ _ (by simp only [binOp, Op.intArith, ne_eq, not_true_eq_false, if_false]; rfl) (.int _ _) h
  case quo => exact hb _ _ (by simp only [binOp, Op.intDiv, if_neg h.1, ne_eq, not_true_eq_false, if_false]; rfl) (.int _ _) h.2
  case rem => exact hb _ _ (by simp only [binOp, Op.intDiv, if_neg h.1, ne_eq, not_true_eq_false, if_false]; rfl) (.int _ _) h.2
  case and => exact hb _ _ (by simp only [binOp, Op.intBits, ne_eq, not_true_eq_false, if_false]; rfl) (.int _ _) h
  case or => exact hb _ _ (by simp only [binOp, Op.intBits, ne_eq, not_true_eq_false, if_false]; rfl) (.int _ _) h
  case xor => exact hb _ _ (by simp only [binOp, Op.intBits, ne_eq, not_true_eq_false, if_false]; rfl) (.int _ _) h
  case andNot => exact hb _ _ (by simp only [binOp, Op.intBits, ne_eq, not_true_eq_false, if_false]; rfl) (.int _ _) h
  case eql => exact hb _ (.bool (decide (a = b))) (by simp only [binOp, Op.intCmp, e1, ne_eq, not_true_eq_false, if_false]; rfl) (.bool _) h
  case neq => exact hb _ (.bool (!decide (a = b))) (by simp only [binOp, Op.intCmp, e2, ne_eq, not_true_eq_false, if_false]; rfl) (.bool _) h
  case lss => exact hb _ _ (by simp only [binOp, Op.intCmp, ne_eq, not_true_eq_false, if_false]; rfl) (.bool _) h
  case leq => exact hb _ _ (by simp only [binOp, Op.intCmp, ne_eq, not_true_eq_false, if_false]; rfl) (.bool _) h
  case gtr => exact hb _ _ (by simp only [binOp, Op.intCmp, ne_eq, not_true_eq_false, if_false]; rfl) (.bool _) h
  case geq => exact hb _ _ (by simp only [binOp, Op.intCmp, ne_eq, not_true_eq_false, if_false]; rfl) (.bool _) h

theorem run_aStr {op : BinOp} {s t : ByteArray} {K : AV → Prop} (T : TypeId) (h : aStr op s.data.toList t.data.toList K) : ∃ z v, (binOp op T (.string s) (.string t)).run P w = .ok v w ∧ V H z v ∧ K z := by
  have e1 := @str_dec s t
  have e2 : ∀ x : ByteArray, x.toList = x.data.toList := fun x => ByteArray.toList_eq x
  have e3 : (s.data.toList == t.data.toList) = decide (s.data.toList = t.data.toList) := by rw [Bool.eq_iff_iff, beq_iff_eq, decide_eq_true_iff]
  have hb : ∀ (z : AV) (v : Value), (binOp op T (.string s) (.string t)).run P w = .ok v w → V H z v → K z → ∃ z v, (binOp op T (.string s) (.string t)).run P w = .ok v w ∧ V H z v ∧ K z := fun z v a b c => ⟨z, v, a, b, c⟩
  cases op <;> simp only [aStr] at h
  case eql => exact hb _ _ (by simp only [binOp, Op.stringOp, e1]; rfl) (.bool _) h
  case neq => exact hb _ _ (by simp only [binOp, Op.stringOp, e1]; rfl) (.bool _) h
  case lss => exact hb _ _ (by simp only [binOp, Op.stringOp, e2]; rfl) (.bool _) h
  case leq => exact hb _ _ (by simp only [binOp, Op.stringOp, e2, e3]; rfl) (.bool _) h
  case gtr => exact hb _ _ (by simp only [binOp, Op.stringOp, e2, e3]; rfl) (.bool _) h
  case geq => exact hb _ _ (by simp only [binOp, Op.stringOp, e2]; rfl) (.bool _) h
  refine ⟨.str (s ++ t).data.toList, .string (s ++ t), ?_, .str _, ?_⟩
  · have hm : ¬ (((s.size + t.size : Nat) : Int) > IntKind.i64.max) := by
      have : (IntKind.i64.max : Int) = 9223372036854775807 := by decide
      rw [this]
      have h1 := h.1
      simp only [ByteArray.size] at *
      simp only [Array.length_toList] at h1
      omega
    simp only [binOp, Op.stringOp]
    rw [if_neg hm]; rfl
  · have : (s ++ t).data.toList = s.data.toList ++ t.data.toList := by simp
    rw [this]; exact h.2

theorem run_equal_bool (T : TypeId) (a b : Bool) (hT : P.underlying T = some .bool) : (Op.equal T (.bool a) (.bool b)).run P w = .ok (a == b) w := by
  unfold Op.equal
  show (Op.equalIn (9999 + 1) _ _ _).run P w = _
  unfold Op.equalIn
  rw [run_bind_ok (run_underlying hT w)]
  rfl

/-- arithmetic and comparisons of whole numbers, texts, bools -/
def aBinT (P : Program) (op : BinOp) (T : TypeId) (x y : AV) (K : AV → Prop) : Prop :=
  match op, x, y with
  | .shl, .int k a, .int _ b => 0 ≤ b ∧ K (.int k (k.wrap (a * 2 ^ (min b.toNat k.bits))))
  | .shr, .int k a, .int _ b => 0 ≤ b ∧ K (.int k (a.fdiv (2 ^ (min b.toNat k.bits))))
  | op, .int k a, .int k' b => k = k' ∧ aInt op k a b K
  | op, .str a, .str b => aStr op a b K
  | .eql, .bool a, .bool b => P.underlying T = some .bool ∧ K (.bool (a == b))
  | .neq, .bool a, .bool b => P.underlying T = some .bool ∧ K (.bool (!(a == b)))
  | _, _, _ => False

theorem run_aBin {op : BinOp} {T : TypeId} {xo yo : Operand} {x y : AV} {v1 v2 : Value} {K : AV → Prop} (h1 : V H x v1) (h2 : V H y v2) (h : aBinT P op T x y K) :
    ∃ z v, (do eqGuard op T xo yo v1 v2; binOp op T v1 v2 : Sem Value).run P w = .ok v w ∧ V H z v ∧ K z := by
  cases x <;> cases y <;> (try (cases op <;> exact h.elim))
  · rename_i k a k' b
    rw [V_int h1, V_int h2, run_bind_ok (eqGuard_int P op T xo yo k a _ w)]
    by_cases hs : op = .shl ∨ op = .shr
    · rcases hs with rfl | rfl
      · obtain ⟨hb, hK⟩ := h
        exact ⟨_, _, by simp only [binOp, Op.shift]; rw [if_neg (by omega)]; rfl, .int _ _, hK⟩
      · obtain ⟨hb, hK⟩ := h
        exact ⟨_, _, by simp only [binOp, Op.shift]; rw [if_neg (by omega)]; rfl, .int _ _, hK⟩
    · have h' : k = k' ∧ aInt op k a b K := by
        cases op <;> first | exact h | (exfalso; apply hs; first | exact .inl rfl | exact .inr rfl)
      obtain ⟨rfl, h'⟩ := h'
      exact run_aInt T h'
  · rename_i a b
    rw [V_bool h1, V_bool h2, run_bind_ok (eqGuard_bool P op T xo yo a _ w)]
    cases op <;> first | exact h.elim | skip
    · obtain ⟨hT, hK⟩ := h
      refine ⟨_, _, ?_, .bool _, hK⟩
      show ((Op.equal T (.bool a) (.bool b)) >>= fun x => pure (Value.bool x) : Sem Value).run P w = _
      rw [run_bind_ok (run_equal_bool T a b hT)]; rfl
    · obtain ⟨hT, hK⟩ := h
      refine ⟨_, _, ?_, .bool _, hK⟩
      show ((Op.equal T (.bool a) (.bool b)) >>= fun x => pure (Value.bool (!x)) : Sem Value).run P w = _
      rw [run_bind_ok (run_equal_bool T a b hT)]; rfl
  · rename_i a b
    obtain ⟨s, rfl, rfl⟩ := V_str h1
    obtain ⟨t, rfl, rfl⟩ := V_str h2
    rw [run_bind_ok (eqGuard_str P op T xo yo s _ w)]
    exact run_aStr T (by cases op <;> exact h)

end

end Go.Proofs.YtcmaledchnhccaaGreatDoor

/-! The abstract meaning of loads, stores, addresses. No condition. -/
namespace Go.Proofs.YtcmaledchnhccaaGreatDoor
open Go Go.RowKit

theorem getElem?_lt {α : Type} {l : List α} {i : Nat} {x : α} (h : l[i]? = some x) : i < l.length := by
  rw [List.getElem?_eq_some_iff] at h
  exact h.1
theorem Program.info_of_underlying {P : Program} {T : TypeId} {d : TypeDesc} (h : P.underlying T = some d) : ∃ i, P.info? T = some i := by
  unfold Program.underlying at h
  split at h
  · exact ⟨_, by assumption⟩
  · exact ⟨_, by assumption⟩
  · cases h
theorem run_typeInfo {P : Program} {T : TypeId} {i : TypeInfo} (h : P.info? T = some i) (w : World) : (typeInfo T).run P w = .ok i w := by
  unfold typeInfo
  rw [run_bind_ok (show Sem.run P program w = .ok P w from rfl)]
  simp only [h]
  rfl
theorem cellsOf_eq {P : Program} {T : TypeId} {i : TypeInfo} (h : P.info? T = some i) : P.cellsOf T = i.size := by simp [Program.cellsOf, h]
theorem bytesOf_eq {P : Program} {T : TypeId} {i : TypeInfo} (h : P.info? T = some i) : P.bytesOf T = i.bytes := by simp [Program.bytesOf, h]
theorem run_sizeOf' {P : Program} {T : TypeId} {i : TypeInfo} (h : P.info? T = some i) (w : World) : (sizeOf T).run P w = .ok (P.cellsOf T) w := by
  unfold sizeOf
  rw [run_bind_ok (run_typeInfo h w), cellsOf_eq h]; rfl
def aggD : TypeDesc → Bool
  | .struct _ | .array _ _ => true
  | _ => false
theorem run_isAgg {P : Program} {T : TypeId} {d : TypeDesc} (h : P.underlying T = some d) (w : World) : (isAgg T).run P w = .ok (aggD d) w := by
  unfold isAgg
  rw [run_bind_ok (run_underlying h w)]
  cases d <;> rfl

/-- where a pointer points: a row's elements, the element, the cell in it -/
def ptr (S : Nat → AV) : AV → Option (List (List AV) × Nat × Nat)
  | .ip _ es i o => some (es, i, o)
  | .rf k => (match S k with
    | .bx _ _ es => some (es, 0, 0)
    | _ => none)
  | .rp k i o => some ((S k).els, i, o)
  | _ => none

section
variable {C : Ctx} {H : Imm} {γ : Nat → List Nat} {S : Nat → AV} {tmps : Array Value} {w w' : World} {P : Program}

theorem Rel.owner_val (R : Rel C H γ S tmps w) {k : Nat} (ho : (S k).owner = true) : ∃ v, tmps[k]? = some v ∧ Held H w (γ k) (S k) v := by
  have hlt : k < tmps.size := Nat.lt_of_not_le fun h => by rw [R.out k h] at ho; cases ho
  have hg : tmps[k]? = some tmps[k] := by simp [hlt]
  refine ⟨_, hg, (SOK_of_held ?_).1 (R.slot k _ hg)⟩
  cases hS : S k <;> rw [hS] at ho <;> first | rfl | cases ho
/-- an owner's row in memory -/
theorem Rel.own_row (R : Rel C H γ S tmps w) {k g : Nat} (hg : γ k = [g]) (hp : (S k).plain = true) :
    ∃ e cur, w.heap[g]? = some (.cells cur e (0, 0)) ∧ (S k).els.length * (S k).esz ≤ cur.size ∧ RowRel H (S k).esz (S k).els cur 0 := by
  obtain ⟨v, hv, hh⟩ := R.owner_val (k := k) (by cases hS : S k <;> rw [hS] at hp <;> first | rfl | cases hp)
  cases hS : S k <;> rw [hS] at hp hh <;> first | cases hp | skip
  · rcases hh with ⟨_, _, hb⟩ | ⟨g', cap, cur, hb, _, hh, b1, b2, b3, hr⟩
    · rw [hg] at hb; cases hb
    · rw [hg] at hb; cases hb
      exact ⟨_, cur, hh, by simp only [AV.els, AV.esz]; rw [b3]; exact Nat.mul_le_mul_right _ b1, hr⟩
  · obtain ⟨g', cur, hb, _, hh, b1, hr⟩ := hh
    rw [hg] at hb; cases hb
    exact ⟨_, cur, hh, by simp only [AV.els, AV.esz]; omega, hr⟩

theorem ptr_ok (R : Rel C H γ S tmps w) {x : AV} {v : Value} {es i o} (hx : AOK H γ S tmps x v) (hp : ptr S x = some (es, i, o)) (hne : es ≠ []) :
    ∃ g off s cur T fr, v = .pointer (some ⟨g, off + i * s + o, none⟩) ∧ w.heap[g]? = some (.cells cur T fr) ∧ off + es.length * s ≤ cur.size ∧ RowRel H s es cur off := by
  unfold ptr at hp
  split at hp
  · cases hp
    obtain ⟨g, off, cur, T, fr, rfl, hH, hfit, hr⟩ := V_ip_iff.1 hx
    exact ⟨g, off, _, cur, T, fr, rfl, R.imm _ _ hH, hfit, hr⟩
  · rename_i k
    split at hp
    · rename_i e s es' hS
      cases hp
      obtain ⟨hk, hv⟩ := hx
      obtain ⟨v', hv', hh⟩ := R.owner_val hk
      rw [hv] at hv'; cases hv'
      rw [hS] at hh
      obtain ⟨g, cur, hb, rfl, hh, b1, hr⟩ := hh
      exact ⟨g, 0, s, cur, _, _, by simp, hh, by omega, hr⟩
    · cases hp
  · rename_i k i' o'
    cases hp
    obtain ⟨g, hg, rfl⟩ := hx
    have hpl : (S k).plain = true := by
      cases hS : S k <;> rw [hS] at hne <;> first | rfl | exact absurd rfl hne
    obtain ⟨e, cur, hh, hfit, hr⟩ := R.own_row hg hpl
    exact ⟨g, 0, _, cur, _, _, by simp, hh, by omega, hr⟩
  · cases hp

theorem cell_at {g off : Nat} {cur : Array Value} {T : TypeId} {fr : Nat × Nat} (h : w.heap[g]? = some (.cells cur T fr)) {c : Value} (hc : cur[off]? = some c) : w.cell? ⟨g, off, none⟩ = some c := by
  simp [World.cell?, h, hc]

theorem addr_add (g off j : Nat) : (⟨g, off, none⟩ : Addr).add j = ⟨g, off + j, none⟩ := by
  unfold Addr.add
  split
  · subst_vars; rfl
  · rfl

/-! ### load -/
def aLoad (P : Program) (S : Nat → AV) (T : TypeId) (x : AV) (K : AV → Prop) : Prop :=
  match ptr S x, P.underlying T with
  | some (es, i, o), some d =>
    if aggD d then ∃ e, es[i]? = some e ∧ o + P.cellsOf T ≤ e.length ∧ K (.agg ((e.drop o).take (P.cellsOf T)))
    else ∃ e c, es[i]? = some e ∧ e[o]? = some c ∧ K c
  | _, _ => False

theorem run_load (R : Rel C H γ S tmps w) {T : TypeId} {x : AV} {v : Value} {K : AV → Prop} (hx : AOK H γ S tmps x v) (h : aLoad P S T x K) :
    ∃ z u, (Instr.loadAt T v).run P w = .ok u w ∧ V H z u ∧ K z := by
  unfold aLoad at h
  split at h
  · rename_i es i o d hp hd
    have hne : es ≠ [] := by
      rintro rfl
      split at h
      · obtain ⟨e, he, _⟩ := h; simp at he
      · obtain ⟨e, c, he, _⟩ := h; simp at he
    obtain ⟨g, off, s, cur, T', fr, rfl, hh, hfit, hr⟩ := ptr_ok R hx hp hne
    obtain ⟨ti, hti⟩ := Program.info_of_underlying hd
    have hsure : (Instr.sureAddr (.pointer (some ⟨g, off + i * s + o, none⟩))).run P w = .ok ⟨g, off + i * s + o, none⟩ w := rfl
    unfold Instr.loadAt
    split at h
    · rename_i hagg
      obtain ⟨e, he, hlen, hK⟩ := h
      have hcell : ∀ t x, ((e.drop o).take (P.cellsOf T))[t]? = some x → x.sc = true ∧ ∃ c, cur[off + i * s + o + t]? = some c ∧ V H x c := by
        intro t x hx
        rw [List.getElem?_take] at hx
        split at hx
        · rw [List.getElem?_drop] at hx
          obtain ⟨h1, c, hc, hv⟩ := hr.2 i e (o + t) x he hx
          exact ⟨h1, c, by rw [← hc]; congr 1; omega, hv⟩
        · cases hx
      let cs : List Value := (List.range (P.cellsOf T)).map fun t => (cur[off + i * s + o + t]?).getD undef
      have hcs : ∀ t x, ((e.drop o).take (P.cellsOf T))[t]? = some x → ∃ c, cs[t]? = some c ∧ cur[off + i * s + o + t]? = some c ∧ V H x c := by
        intro t x hx
        obtain ⟨_, c, hc, hv⟩ := hcell t x hx
        have ht : t < P.cellsOf T := by have := getElem?_lt hx; simp at this; omega
        exact ⟨c, by simp [cs, ht, hc], hc, hv⟩
      have hcl : cs.length = P.cellsOf T := by simp [cs]
      have htl : ((e.drop o).take (P.cellsOf T)).length = P.cellsOf T := by simp; omega
      have hrun := run_loadCells_list (P := P) (w := w) ⟨g, off + i * s + o, none⟩ cs (by
        intro j u hu
        have hj : j < ((e.drop o).take (P.cellsOf T)).length := by rw [htl, ← hcl]; exact getElem?_lt hu
        obtain ⟨c, h1, h2, _⟩ := hcs j _ (List.getElem?_eq_getElem hj)
        rw [h1] at hu; cases hu
        rw [addr_add]
        exact cell_at hh h2)
      rw [hcl] at hrun
      refine ⟨_, .agg cs.toArray, ?_, V_agg_iff.2 ⟨_, rfl, ⟨by rw [List.size_toArray, hcl, htl], fun j x hx => ?_⟩, fun j x hx => (hcell j x hx).1⟩, hK⟩
      · rw [run_bind_ok hsure]
        unfold loadVar
        rw [run_bind_ok (run_isAgg hd w), hagg]
        show ((sizeOf T >>= fun n => (loadCells _ n >>= fun cs => pure (Value.agg cs))) : Sem Value).run P w = _
        rw [run_bind_ok (run_sizeOf' hti w), run_bind_ok hrun]; rfl
      · obtain ⟨c, h1, _, h3⟩ := hcs j x hx
        exact ⟨c, by simpa using h1, h3⟩
    · rename_i hagg
      obtain ⟨e, c, he, hc, hK⟩ := h
      obtain ⟨_, u, hu, hv⟩ := hr.2 i e o c he hc
      refine ⟨c, u, ?_, hv, hK⟩
      rw [run_bind_ok hsure]
      unfold loadVar
      rw [run_bind_ok (run_isAgg hd w), (by simpa using hagg : aggD d = false)]
      show (load _).run P w = _
      unfold load
      simp only [Sem.run]
      rw [cell_at hh hu]
  · exact h.elim
end
end Go.Proofs.YtcmaledchnhccaaGreatDoor

/-! The abstract meaning of stores, of what is kept when a value is handed on. No condition. -/
namespace Go.Proofs.YtcmaledchnhccaaGreatDoor
open Go Go.RowKit

def splice (e : List AV) (o : Nat) (cs : List AV) : List AV := e.take o ++ cs ++ e.drop (o + cs.length)
theorem splice_length {e : List AV} {o : Nat} {cs : List AV} (h : o + cs.length ≤ e.length) : (splice e o cs).length = e.length := by
  simp [splice]; omega
theorem splice_get {e : List AV} {o : Nat} {cs : List AV} (h : o + cs.length ≤ e.length) (t : Nat) : (splice e o cs)[t]? = if o ≤ t ∧ t < o + cs.length then cs[t - o]? else e[t]? := by
  unfold splice
  by_cases h1 : t < o
  · rw [List.append_assoc, List.getElem?_append_left (by simp; omega), List.getElem?_take, if_pos h1, if_neg (by omega)]
  · by_cases h2 : t < o + cs.length
    · rw [List.append_assoc, List.getElem?_append_right (by simp; omega), List.getElem?_append_left (by simp; omega), if_pos (by omega)]
      congr 1; simp; omega
    · rw [List.getElem?_append_right (by simp; omega), List.getElem?_drop, if_neg (by omega)]
      congr 1; simp; omega
def setEls : AV → List (List AV) → AV
  | .ow e s _, es => .ow e s es
  | .bx e s _, es => .bx e s es
  | x, _ => x
def cellsV : AV → List AV
  | .agg cs => cs
  | x => [x]
/-- a value that may lie in cells -/
def AV.flat : AV → Bool
  | .agg _ => true
  | x => x.sc

theorem cells_ok {H : Imm} {y : AV} {u : Value} (h : V H y u) (hf : y.flat = true) : u.cells.size = (cellsV y).length ∧ (∀ (j : Nat) (x : AV), (cellsV y)[j]? = some x → x.sc = true ∧ ∃ c, u.cells[j]? = some c ∧ V H x c) := by
  by_cases hs : y.sc = true
  · have hc := h.cells hs
    have hy : cellsV y = [y] := by cases y <;> first | rfl | cases hs
    rw [hc, hy]
    refine ⟨rfl, fun j x hx => ?_⟩
    cases j with
    | zero => simp at hx; subst hx; exact ⟨hs, u, by simp, h⟩
    | succ j => simp at hx
  · cases y <;> first | exact absurd hf hs | skip
    rename_i cs
    obtain ⟨arr, rfl, ⟨hn, hr⟩, hsc⟩ := V_agg_iff.1 h
    exact ⟨hn, fun j x hx => ⟨hsc j x hx, hr j x hx⟩⟩
theorem cells_one {H : Imm} {y : AV} {u : Value} (h : V H y u) (hf : y.flat = true) : ∀ v ∈ u.cells.toList, v.oneCell' = true := by
  obtain ⟨hn, hr⟩ := cells_ok h hf
  intro v hv
  obtain ⟨j, hj, rfl⟩ := List.getElem_of_mem hv
  have hj' : j < (cellsV y).length := by rw [← hn]; simpa using hj
  obtain ⟨hs, c, hc, hvv⟩ := hr j _ (List.getElem?_eq_getElem hj')
  have : c = u.cells.toList[j] := by
    have h2 := hc
    rw [← Array.getElem?_toList, List.getElem?_eq_getElem hj] at h2
    cases h2; rfl
  rw [← this]
  exact hvv.one hs

theorem RowRel.splice {H : Imm} {s : Nat} {es : List (List AV)} {cur : Array Value} (r : RowRel H s es cur 0) {i o : Nat} {e cs : List AV} {us : List Value} (he : es[i]? = some e) (hlen : o + cs.length ≤ e.length)
    (hfit : es.length * s ≤ cur.size) (hu : us.length = cs.length) (hv : ∀ (j : Nat) (x : AV), cs[j]? = some x → x.sc = true ∧ ∃ c, us[j]? = some c ∧ V H x c) :
    RowRel H s (es.set i (splice e o cs)) (cur.toList.take (i * s + o) ++ us ++ cur.toList.drop (i * s + o + us.length)).toArray 0 := by
  have hel : e.length = s := r.1 e (List.mem_of_getElem? he)
  have hi : i < es.length := getElem?_lt he
  have hbig : i * s + s ≤ cur.size := by
    have := Nat.mul_le_mul_right s hi
    rw [Nat.succ_mul] at this
    omega
  have hget : ∀ p, (cur.toList.take (i * s + o) ++ us ++ cur.toList.drop (i * s + o + us.length)).toArray[p]? = if i * s + o ≤ p ∧ p < i * s + o + us.length then us[p - (i * s + o)]? else cur[p]? := by
    intro p
    rw [List.getElem?_toArray]
    by_cases h1 : p < i * s + o
    · rw [List.append_assoc, List.getElem?_append_left (by simp; omega), List.getElem?_take, if_pos h1, if_neg (by omega), Array.getElem?_toList]
    · by_cases h2 : p < i * s + o + us.length
      · rw [List.append_assoc, List.getElem?_append_right (by simp; omega), List.getElem?_append_left (by simp; omega), if_pos (by omega)]
        congr 1; simp; omega
      · rw [List.getElem?_append_right (by simp; omega), List.getElem?_drop, if_neg (by omega), Array.getElem?_toList]
        congr 1; simp; omega
  constructor
  · intro e' he'
    rcases List.mem_or_eq_of_mem_set he' with h | rfl
    · exact r.1 e' h
    · rw [splice_length hlen]; exact hel
  · intro i' e' t x he' hx
    rw [List.getElem?_set] at he'
    by_cases hii : i = i'
    · subst hii
      rw [if_pos rfl, if_pos hi] at he'
      cases he'
      rw [splice_get hlen] at hx
      have ht : t < s := by
        have := getElem?_lt (l := Go.Proofs.YtcmaledchnhccaaGreatDoor.splice e o cs) (i := t) (x := x) (by rw [splice_get hlen]; exact hx)
        rw [splice_length hlen] at this; omega
      rw [hget]
      by_cases ht2 : o ≤ t ∧ t < o + cs.length
      · rw [if_pos ht2] at hx
        obtain ⟨h1, c, hc, hvv⟩ := hv _ _ hx
        refine ⟨h1, c, ?_, hvv⟩
        rw [if_pos (by omega), ← hc]
        congr 1; omega
      · rw [if_neg ht2] at hx
        obtain ⟨h1, c, hc, hvv⟩ := r.2 i e t x he hx
        refine ⟨h1, c, ?_, hvv⟩
        rw [if_neg (by omega), ← hc]
    · rw [if_neg hii] at he'
      obtain ⟨h1, c, hc, hvv⟩ := r.2 i' e' t x he' hx
      refine ⟨h1, c, ?_, hvv⟩
      have ht : t < s := by rw [← r.1 e' (List.mem_of_getElem? he')]; exact getElem?_lt hx
      rw [hget, ← hc]
      have hout : ¬ (i * s + o ≤ 0 + i' * s + t ∧ 0 + i' * s + t < i * s + o + us.length) := by
        rcases Nat.lt_or_gt_of_ne hii with h | h
        · have := Nat.mul_le_mul_right s (show i + 1 ≤ i' from h)
          rw [Nat.succ_mul] at this
          omega
        · have := Nat.mul_le_mul_right s (show i' + 1 ≤ i from h)
          rw [Nat.succ_mul] at this
          omega
      rw [if_neg hout]

/-- a place of an owner's: whose, which element, which cell -/
def optr (S : Nat → AV) : AV → Option (Nat × Nat × Nat)
  | .rf k => (match S k with
    | .bx .. => some (k, 0, 0)
    | _ => none)
  | .rp k i o => if (S k).plain then some (k, i, o) else none
  | _ => none
def aStore (P : Program) (S : Nat → AV) (T : TypeId) (x y : AV) (K : (Nat → AV) → Prop) : Prop :=
  match optr S x with
  | some (k, i, o) => y.flat = true ∧ (P.info? T).isSome = true ∧ (cellsV y).length = P.cellsOf T ∧ ∃ e, (S k).els[i]? = some e ∧ o + (cellsV y).length ≤ e.length ∧
      K (upd S k (setEls (S k) ((S k).els.set i (splice e o (cellsV y)))))
  | none => False

section
variable {C : Ctx} {H : Imm} {γ : Nat → List Nat} {S : Nat → AV} {tmps : Array Value} {w w' : World} {P : Program}

theorem setEls_shape {x : AV} {es : List (List AV)} (hp : x.plain = true) (h : es.length = x.els.length) : ShapeEq x (setEls x es) := by
  cases x with
  | ow e s es0 => exact ⟨rfl, rfl, h.symm⟩
  | bx e s es0 => exact ⟨rfl, rfl, h.symm⟩
  | _ => cases hp

theorem run_astore (R : Rel C H γ S tmps w) {T : TypeId} {x y : AV} {v u : Value} {K : (Nat → AV) → Prop} (hx : AOK H γ S tmps x v) (hy : V H y u) (h : aStore P S T x y K) :
    ∃ w' S', (Instr.storeAt T v u).run P w = .ok () w' ∧ K S' ∧ Rel C H γ S' tmps w' := by
  unfold aStore at h
  split at h
  · rename_i k i o hp
    obtain ⟨hfl, hinf, hlen, e, he, hle, hK⟩ := h
    obtain ⟨ti, hti⟩ := Option.isSome_iff_exists.1 hinf
    have hpl : (S k).plain = true ∧ ∃ g, γ k = [g] ∧ v = .pointer (some ⟨g, i * (S k).esz + o, none⟩) := by
      unfold optr at hp
      split at hp
      · rename_i j
        split at hp
        · rename_i e0 s0 es0 hS
          cases hp
          obtain ⟨v', hv', hh⟩ := R.owner_val hx.1
          rw [hx.2] at hv'; cases hv'
          rw [hS] at hh
          obtain ⟨g, cur, hb, rfl, _⟩ := hh
          exact ⟨by rw [hS]; rfl, g, hb, by simp⟩
        · cases hp
      · rename_i j a b
        split at hp
        · rename_i hpl
          cases hp
          obtain ⟨g, hg, hv⟩ := hx
          exact ⟨hpl, g, hg, hv⟩
        · cases hp
      · cases hp
    obtain ⟨hpl, g, hg, rfl⟩ := hpl
    have ho : (S k).owner = true := by cases hS : S k <;> rw [hS] at hpl <;> first | rfl | cases hpl
    obtain ⟨e0, cur, hh, hfit, hr⟩ := R.own_row hg hpl
    obtain ⟨hcn, hcr⟩ := cells_ok hy hfl
    have hel : e.length = (S k).esz := hr.1 e (List.mem_of_getElem? he)
    have hi : i < (S k).els.length := getElem?_lt he
    have hbig : i * (S k).esz + (S k).esz ≤ cur.size := by
      have := Nat.mul_le_mul_right (S k).esz hi
      rw [Nat.succ_mul] at this
      omega
    have hst := run_storeCells_at (P := P) g (i * (S k).esz + o) e0 u.cells.toList 0 cur w hh (by simp only [Array.length_toList, hcn]; omega) (cells_one hy hfl)
    simp only [Nat.add_zero] at hst
    refine ⟨w.setRow g (cur.toList.take (i * (S k).esz + o) ++ u.cells.toList ++ cur.toList.drop (i * (S k).esz + o + u.cells.toList.length)).toArray, _, ?_, hK, ?_⟩
    · unfold Instr.storeAt
      rw [run_bind_ok (show (Instr.sureAddr _).run P w = .ok _ w from rfl)]
      unfold storeVar
      rw [run_bind_ok (run_sizeOf' hti w)]
      rw [if_neg (by rw [hcn, hlen]; simp)]
      exact hst
    · obtain ⟨val, hval, hheld⟩ := R.owner_val ho
      have hsp := hr.splice (us := u.cells.toList) he hle hfit (by simp [hcn]) (fun j x hx => by
        obtain ⟨a, c, b, d⟩ := hcr j x hx
        exact ⟨a, c, by rw [Array.getElem?_toList]; exact b, d⟩)
      refine R.own_upd hval ho (setEls_shape hpl (by simp)) ?_ (fun g' _ hg' => setRow_other w g g' _ (by rintro rfl; exact hg' (by rw [hg]; simp))) rfl rfl rfl (by simp)
      have hrow := setRow_heap w g cur (cur.toList.take (i * (S k).esz + o) ++ u.cells.toList ++ cur.toList.drop (i * (S k).esz + o + u.cells.toList.length)).toArray e0 (0, 0) hh
      have hsz : (cur.toList.take (i * (S k).esz + o) ++ u.cells.toList ++ cur.toList.drop (i * (S k).esz + o + u.cells.toList.length)).toArray.size = cur.size := by
        simp only [List.size_toArray, List.length_append, List.length_take, List.length_drop, Array.length_toList]; omega
      cases hS : S k <;> rw [hS] at hpl hheld <;> first | cases hpl | skip
      · rcases hheld with ⟨_, _, hb⟩ | ⟨g', cap, cur', hb, hv', hh', b1, b2, b3, _⟩
        · rw [hg] at hb; cases hb
        · rw [hg] at hb; cases hb
          rw [hh] at hh'; cases hh'
          rw [hS] at hsp hrow hsz
          refine .inr ⟨g, cap, _, hg, ?_, hrow, by rw [List.length_set]; exact b1, b2, by rw [hsz]; exact b3, hsp⟩
          rw [hv']; simp [AV.els]
      · obtain ⟨g', cur', hb, hv', hh', b1, _⟩ := hheld
        rw [hg] at hb; cases hb
        rw [hh] at hh'; cases hh'
        rw [hS] at hsp hrow hsz
        exact ⟨g, _, hg, hv', hrow, by rw [hsz]; simpa [AV.els] using b1, hsp⟩
  · exact h.elim
end
end Go.Proofs.YtcmaledchnhccaaGreatDoor

/-! The abstract meaning of addresses, lengths, slicing, nil tests and the small operations. No condition. -/
namespace Go.Proofs.YtcmaledchnhccaaGreatDoor
open Go Go.RowKit

/-! ### what is handed on for good: an owner's row is frozen -/
def pst (S : Nat → AV) (x : AV) (K : (Nat → AV) → AV → Prop) : Prop :=
  match x with
  | .rf k => (S k).plain = true ∧ K (frzS S k) (frz (S k))
  | .rp k i o => (S k).plain = true ∧ K (frzS S k) (.ip (S k).esz (S k).els i o)
  | .rs k a n => (S k).plain = true ∧ K (frzS S k) (.sl (S k).esz (((S k).els.drop a).take n))
  | .junk | .ow .. | .bx .. | .op _ => False
  | x => K S x

section
variable {C : Ctx} {H : Imm} {γ : Nat → List Nat} {S : Nat → AV} {tmps : Array Value} {w w' : World} {P : Program}

theorem plain_owner {x : AV} (h : x.plain = true) : x.owner = true := by cases x <;> first | rfl | cases h

theorem pst_ok' (R : Rel C H γ S tmps w) {x : AV} {v : Value} {K : (Nat → AV) → AV → Prop} (hx : AOK H γ S tmps x v) (h : pst S x K) :
    ∃ S' H' γ' y, (H.le H' ∧ K S' y) ∧ Rel C H' γ' S' tmps w ∧ V H' y v := by
  unfold pst at h
  split at h
  · rename_i k
    obtain ⟨hp, hK⟩ := h
    obtain ⟨v', hv', hh⟩ := R.owner_val (plain_owner hp)
    rw [hx.2] at hv'; cases hv'
    exact ⟨_, _, _, _, ⟨addImm_le fun g hg => (R.own k g hg).1, hK⟩, R.freeze k hp, V_of_own hp hh (addImm_le fun g hg => (R.own k g hg).1) (fun g hg => by simp [addImm, hg])⟩
  · rename_i k i o
    obtain ⟨hp, hK⟩ := h
    obtain ⟨g, hg, rfl⟩ := hx
    obtain ⟨e, cur, hh, hfit, hr⟩ := R.own_row hg hp
    refine ⟨_, _, _, _, ⟨addImm_le fun g hg => (R.own k g hg).1, hK⟩, R.freeze k hp, V_ip_iff.2 ⟨g, 0, cur, e, (0, 0), by simp, by simp [addImm, hg, hh], by omega, hr.mono (addImm_le fun g hg => (R.own k g hg).1)⟩⟩
  · rename_i k a n
    obtain ⟨hp, hK⟩ := h
    obtain ⟨e, s, es, he, hl, hr⟩ := hx
    obtain ⟨v', hv', hh⟩ := R.owner_val (plain_owner hp)
    rw [he] at hh
    refine ⟨_, _, _, _, ⟨addImm_le fun g hg => (R.own k g hg).1, hK⟩, R.freeze k hp, ?_⟩
    rw [he]
    exact V_of_rs hh hl hr (addImm_le fun g hg => (R.own k g hg).1) (fun g hg => by simp [addImm, hg])
  · exact h.elim
  · exact h.elim
  · exact h.elim
  · exact h.elim
  · refine ⟨_, _, _, _, ⟨Imm.le_refl _, h⟩, R, hx.pers ?_⟩
    cases x <;> first | rfl | simp_all
theorem pst_ok (R : Rel C H γ S tmps w) {x : AV} {v : Value} {K : (Nat → AV) → AV → Prop} (hx : AOK H γ S tmps x v) (h : pst S x K) :
    ∃ S' H' γ' y, K S' y ∧ Rel C H' γ' S' tmps w ∧ V H' y v := by
  obtain ⟨S', H', γ', y, h1, h2, h3⟩ := pst_ok' R hx h
  exact ⟨S', H', γ', y, h1.2, h2, h3⟩

/-! ### a field's address, an element's address -/
def shiftP (S : Nat → AV) (x : AV) (off : Nat) (K : AV → Prop) : Prop :=
  match x with
  | .ip s es i o => K (.ip s es i (o + off))
  | .rp k i o => K (.rp k i (o + off))
  | .rf k => (match S k with
    | .bx .. => K (.rp k 0 off)
    | _ => False)
  | _ => False
theorem shiftP_ok (R : Rel C H γ S tmps w) {x : AV} {v : Value} {off : Nat} {K : AV → Prop} (hx : AOK H γ S tmps x v) (h : shiftP S x off K) :
    ∃ z a, v = .pointer (some a) ∧ a.spot = none ∧ AOK H γ S tmps z (.pointer (some ⟨a.block, a.off + off, none⟩)) ∧ K z := by
  unfold shiftP at h
  split at h
  · rename_i s es i o
    obtain ⟨g, o2, cur, T, fr, rfl, hH, hfit, hr⟩ := V_ip_iff.1 hx
    exact ⟨.ip s es i (o + off), _, rfl, rfl, V_ip_iff.2 ⟨g, o2, cur, T, fr, by simp only [Nat.add_assoc], hH, hfit, hr⟩, h⟩
  · rename_i k i o
    obtain ⟨g, hg, rfl⟩ := hx
    exact ⟨.rp k i (o + off), _, rfl, rfl, ⟨g, hg, by simp only [Nat.add_assoc]⟩, h⟩
  · rename_i k
    split at h
    · rename_i e s es hS
      obtain ⟨v', hv', hh⟩ := R.owner_val hx.1
      rw [hx.2] at hv'; cases hv'
      rw [hS] at hh
      obtain ⟨g, cur, hb, rfl, _⟩ := hh
      exact ⟨.rp k 0 off, _, rfl, rfl, ⟨g, hb, by simp⟩, h⟩
    · exact h.elim
  · exact h.elim

def aField (P : Program) (S : Nat → AV) (T : TypeId) (x : AV) (f : Nat) (K : AV → Prop) : Prop :=
  match P.underlying T with
  | some (.struct fields) => (match fields[f]? with
    | some fl => P.cellsOf fl.type ≠ 0 ∧ shiftP S x fl.offset K
    | none => False)
  | _ => False
theorem addr_add' (a : Addr) (n : Nat) (h : a.spot = none) : a.add n = ⟨a.block, a.off + n, none⟩ := by
  obtain ⟨b, o, s⟩ := a
  simp only at h
  subst h
  exact addr_add b o n
theorem info_of_cells {T : TypeId} (h : P.cellsOf T ≠ 0) : ∃ i, P.info? T = some i := by
  unfold Program.cellsOf at h
  cases hi : P.info? T with
  | some i => exact ⟨i, rfl⟩
  | none => rw [hi] at h; exact absurd rfl h
theorem run_field (R : Rel C H γ S tmps w) {T f} {x : AV} {v : Value} {K : AV → Prop} (hx : AOK H γ S tmps x v) (h : aField P S T x f K) :
    ∃ z u, (Instr.fieldAt T v f).run P w = .ok u w ∧ AOK H γ S tmps z u ∧ K z := by
  unfold aField at h
  split at h
  · rename_i fields hT
    split at h
    · rename_i fl hf
      obtain ⟨hn, hs⟩ := h
      obtain ⟨z, a, rfl, hsp, hz, hK⟩ := shiftP_ok R hx hs
      obtain ⟨i, hi⟩ := info_of_cells hn
      refine ⟨z, _, ?_, hz, hK⟩
      unfold Instr.fieldAt
      rw [run_bind_ok (run_underlying hT w)]
      simp only [hf]
      show ((Instr.sureAddr _ >>= fun a => fieldPlace a fl >>= fun p => pure (Value.pointer (some p))) : Sem Value).run P w = _
      rw [run_bind_ok (show (Instr.sureAddr _).run P w = .ok a w from rfl)]
      have : (fieldPlace a fl).run P w = .ok ⟨a.block, a.off + fl.offset, none⟩ w := by
        unfold fieldPlace
        rw [run_bind_ok (run_sizeOf' hi w), if_neg hn, addr_add' _ _ hsp]; rfl
      rw [run_bind_ok this]; rfl
    · exact h.elim
  · exact h.elim

def aIndex (P : Program) (S : Nat → AV) (T : TypeId) (x : AV) (n : Int) (K : AV → Prop) : Prop :=
  match P.underlying T with
  | some (.slice e) => P.cellsOf e ≠ 0 ∧ 0 ≤ n ∧ (match x with
    | .sl s es => n < es.length ∧ s = P.cellsOf e ∧ K (.ip s es n.toNat 0)
    | .rf k => (match S k with
      | .ow _ s es => n < es.length ∧ s = P.cellsOf e ∧ K (.rp k n.toNat 0)
      | _ => False)
    | .rs k a m => n < m ∧ (S k).esz = P.cellsOf e ∧ K (.rp k (a + n.toNat) 0)
    | _ => False)
  | some (.array len e) => P.cellsOf e ≠ 0 ∧ 0 ≤ n ∧ n < len ∧ shiftP S x (n.toNat * P.cellsOf e) K
  | _ => False
theorem run_index (R : Rel C H γ S tmps w) {T : TypeId} {x : AV} {v : Value} {k : IntKind} {n : Int} {K : AV → Prop} (hx : AOK H γ S tmps x v) (h : aIndex P S T x n K) :
    ∃ z u, (Instr.indexAt T v (.int k n)).run P w = .ok u w ∧ AOK H γ S tmps z u ∧ K z := by
  unfold aIndex at h
  split at h
  · rename_i e hT
    obtain ⟨hn0, h0, h⟩ := h
    obtain ⟨i, hi⟩ := info_of_cells hn0
    have main : ∀ (g off len cap : Nat), v = .slice (some ⟨g, off, none⟩) len cap → n < len → (Instr.indexAt T v (.int k n)).run P w = .ok (.pointer (some ⟨g, off + n.toNat * P.cellsOf e, none⟩)) w := by
      rintro g off len cap rfl hlt
      unfold Instr.indexAt
      simp only [asIntOf, run_underlying hT, go_sem, Sem.run_bind, Result.andThen_ok]
      simp [h0, hlt, run_sizeOf' hi, addr_add]
    split at h
    · rename_i s es
      obtain ⟨hlt, rfl, hK⟩ := h
      rcases V_sl_iff.1 hx with ⟨rfl, _⟩ | ⟨g, off, cap, cur, T', fr, hv, hH, hc, hfit, hr⟩
      · simp at hlt; omega
      · refine ⟨.ip _ es n.toNat 0, _, main _ _ _ _ hv hlt, V_ip_iff.2 ⟨g, off, cur, T', fr, by simp, hH, hfit (by rintro rfl; simp at hlt; omega), hr⟩, hK⟩
    · rename_i kk
      split at h
      · rename_i e' s es hS
        obtain ⟨hlt, rfl, hK⟩ := h
        obtain ⟨v', hv', hh⟩ := R.owner_val hx.1
        rw [hx.2] at hv'; cases hv'
        rw [hS] at hh
        rcases hh with ⟨rfl, _, _⟩ | ⟨g, cap, cur, hb, hv, _⟩
        · simp at hlt; omega
        · exact ⟨.rp kk n.toNat 0, _, main _ _ _ _ hv hlt, ⟨g, hb, by simp [hS, AV.esz]⟩, hK⟩
      · exact h.elim
    · rename_i kk a m
      obtain ⟨hlt, hs, hK⟩ := h
      obtain ⟨e', s, es, hS, hl, hr⟩ := hx
      rcases hr with ⟨_, _, rfl⟩ | ⟨g, off, cap, hb, hc, hv, hoff⟩
      · omega
      · have := hoff (by omega)
        subst this
        refine ⟨.rp kk (a + n.toNat) 0, _, main _ _ _ _ hv hlt, ⟨g, hb, ?_⟩, hK⟩
        rw [← hs, hS]
        simp [AV.esz, Nat.add_mul]
    · exact h.elim
  · rename_i len e hT
    obtain ⟨hn0, h0, hlt, hs⟩ := h
    obtain ⟨i, hi⟩ := info_of_cells hn0
    obtain ⟨z, a, rfl, hsp, hz, hK⟩ := shiftP_ok R hx hs
    refine ⟨z, _, ?_, hz, hK⟩
    unfold Instr.indexAt
    simp only [asIntOf, run_underlying hT, go_sem, Sem.run_bind, Result.andThen_ok, Instr.sureAddr]
    simp [h0, hlt, run_sizeOf' hi, addr_add' _ _ hsp]
  · exact h.elim

/-! ### lengths -/
def aLen (P : Program) (S : Nat → AV) (T : TypeId) (x : AV) (K : AV → Prop) : Prop :=
  match P.underlying T, x with
  | some .string, .str l => K (.int .i64 l.length)
  | some (.slice _), .sl _ es => K (.int .i64 es.length)
  | some (.slice _), .rf k => (match S k with
    | .ow _ _ es => K (.int .i64 es.length)
    | _ => False)
  | some (.slice _), .rs _ _ n => K (.int .i64 n)
  | _, _ => False
theorem run_len (R : Rel C H γ S tmps w) {T ty : TypeId} {x : AV} {v : Value} {K : AV → Prop} (hx : AOK H γ S tmps x v) (h : aLen P S T x K) :
    ∃ z u, (Builtin.len_ #[T] ty #[v]).run P w = .ok u w ∧ V H z u ∧ K z := by
  unfold aLen at h
  split at h
  · rename_i l hT
    obtain ⟨s, rfl, rfl⟩ := V_str hx
    refine ⟨_, _, ?_, .int _ _, h⟩
    unfold Builtin.len_
    simp [run_underlying hT, Sem.run_bind, goInt]
  · rename_i e s es hT
    rcases V_sl_iff.1 hx with ⟨rfl, rfl⟩ | ⟨g, off, cap, cur, T', fr, rfl, hH, hc, hfit, hr⟩
    all_goals
      refine ⟨_, _, ?_, .int _ _, h⟩
      unfold Builtin.len_
      simp [run_underlying hT, Sem.run_bind, goInt]
  · rename_i e k hT
    split at h
    · rename_i e' s es hS
      obtain ⟨v', hv', hh⟩ := R.owner_val hx.1
      rw [hx.2] at hv'; cases hv'
      rw [hS] at hh
      rcases hh with ⟨rfl, rfl, _⟩ | ⟨g, cap, cur, hb, rfl, _⟩
      all_goals
        refine ⟨_, _, ?_, .int _ _, h⟩
        unfold Builtin.len_
        simp [run_underlying hT, Sem.run_bind, goInt]
    · exact h.elim
  · rename_i e k a n hT
    obtain ⟨e', s, es, hS, hl, hr⟩ := hx
    rcases hr with ⟨_, rfl, rfl⟩ | ⟨g, off, cap, hb, hc, rfl, hoff⟩
    all_goals
      refine ⟨_, _, ?_, .int _ _, h⟩
      unfold Builtin.len_
      simp [run_underlying hT, Sem.run_bind, goInt]
  · exact h.elim
end
end Go.Proofs.YtcmaledchnhccaaGreatDoor

/-! The abstract meaning of slicing, nil tests, and the small operations. No condition. -/
namespace Go.Proofs.YtcmaledchnhccaaGreatDoor
open Go Go.RowKit

section
variable {C : Ctx} {H : Imm} {γ : Nat → List Nat} {S : Nat → AV} {tmps : Array Value} {w w' : World} {P : Program}

/-- the bounds of a slice expression -/
def bnd (S : Nat → AV) (len : Nat) (lo hi : Option Operand) (K : Nat → Nat → Prop) : Prop :=
  match hi.map (evA S), lo.map (evA S) with
  | none, none => K 0 len
  | some (.int _ h), none => 0 ≤ h ∧ h ≤ len ∧ K 0 h.toNat
  | none, some (.int _ l) => 0 ≤ l ∧ l ≤ len ∧ K l.toNat len
  | some (.int _ h), some (.int _ l) => 0 ≤ l ∧ l ≤ h ∧ h ≤ len ∧ K l.toNat h.toNat
  | _, _ => False
theorem run_bnd {a : Act} (R : Rel C H γ S a.tmps w) {isS : Bool} {len cap : Nat} {lo hi : Option Operand} {K : Nat → Nat → Prop} (hc : len ≤ cap) (h : bnd S len lo hi K) :
    ∃ l r, l ≤ r ∧ r ≤ len ∧ (Instr.sliceBounds isS len cap (lo.map a.eval) (hi.map a.eval) none).run P w = .ok (l, r, cap) w ∧ K l r := by
  unfold bnd at h
  cases hi with
  | none =>
    cases lo with
    | none => exact ⟨0, len, by omega, Nat.le_refl _, by simp [Instr.sliceBounds], h⟩
    | some lo =>
      simp only [Option.map] at h
      split at h <;> simp_all
      rename_i l' e1
      have hv := evA_ok R lo
      rw [e1] at hv
      have := V_int hv
      refine ⟨l'.toNat, len, by omega, Nat.le_refl _, ?_, h.2.2⟩
      simp [Instr.sliceBounds, this, Instr.sliceBound, asIntOf, h.1, h.2.1]
  | some hi =>
    cases lo with
    | none =>
      simp only [Option.map] at h
      split at h <;> simp_all
      rename_i h' e1
      have hv := evA_ok R hi
      rw [e1] at hv
      have := V_int hv
      refine ⟨0, h'.toNat, by omega, by omega, ?_, h.2.2⟩
      have hcap : h' ≤ (cap : Int) := by omega
      simp [Instr.sliceBounds, this, Instr.sliceBound, asIntOf, h.1, hcap]
    | some lo =>
      simp only [Option.map] at h
      split at h <;> simp_all
      rename_i _ h' _ l' e1 e2
      have hv := evA_ok R hi
      rw [e1] at hv
      have := V_int hv
      have hv2 := evA_ok R lo
      rw [e2] at hv2
      have h2 := V_int hv2
      refine ⟨l'.toNat, h'.toNat, by omega, by omega, ?_, h.2.2.2⟩
      have hcap : h' ≤ (cap : Int) := by omega
      have h0 : 0 ≤ h' := by omega
      have hl2 : l' ≤ (h'.toNat : Int) := by omega
      simp [Instr.sliceBounds, this, h2, Instr.sliceBound, asIntOf, h.1, hcap, h0]
      intro hbad
      omega

theorem V_sl_mk {s n g off cap : Nat} {es : List (List AV)} {cur : Array Value} {T : TypeId} {fr : Nat × Nat} (hn : es.length = n) (hg : H g = some (.cells cur T fr)) (hc : n ≤ cap)
    (hfit : es ≠ [] → off + es.length * s ≤ cur.size) (hr : RowRel H s es cur off) : V H (.sl s es) (.slice (some ⟨g, off, none⟩) n cap) := by
  subst hn
  exact V_sl_iff.2 (.inr ⟨g, off, cap, cur, T, fr, rfl, hg, hc, hfit, hr⟩)

def aSlice (P : Program) (S : Nat → AV) (T : TypeId) (x : AV) (lo hi : Option Operand) (K : AV → Prop) : Prop :=
  match P.underlying T, x with
  | some .string, .str l => bnd S l.length lo hi fun a b => K (.str ((l.drop a).take (b - a)))
  | some (.slice e), .sl s es => s = P.cellsOf e ∧ P.cellsOf e ≠ 0 ∧ bnd S es.length lo hi fun a b => K (.sl s ((es.drop a).take (b - a)))
  | some (.slice e), .rf k => (match S k with
    | .ow _ s es => s = P.cellsOf e ∧ P.cellsOf e ≠ 0 ∧ bnd S es.length lo hi fun a b => K (.rs k a (b - a))
    | _ => False)
  | some (.slice e), .rs k a0 n => (S k).esz = P.cellsOf e ∧ P.cellsOf e ≠ 0 ∧ bnd S n lo hi fun a b => K (.rs k (a0 + a) (b - a))
  | _, _ => False

theorem run_aslice {a : Act} (R : Rel C H γ S a.tmps w) {T : TypeId} {x : AV} {v : Value} {lo hi : Option Operand} {K : AV → Prop} (hx : AOK H γ S a.tmps x v) (h : aSlice P S T x lo hi K) :
    ∃ z u, (Instr.sliceAt T v (lo.map a.eval) (hi.map a.eval) none).run P w = .ok u w ∧ AOK H γ S a.tmps z u ∧ K z := by
  unfold aSlice at h
  have sl : ∀ (e : TypeId) (ad : Option Addr) (len cap l r : Nat), P.underlying T = some (.slice e) → P.cellsOf e ≠ 0 → (Instr.sliceBounds true len cap (lo.map a.eval) (hi.map a.eval) none).run P w = .ok (l, r, cap) w →
      (Instr.sliceAt T (.slice ad len cap) (lo.map a.eval) (hi.map a.eval) none).run P w = .ok (.slice (if cap = l then ad else ad.map (·.add (l * P.cellsOf e))) (r - l) (cap - l)) w := by
    intro e ad len cap l r hT hn hb
    obtain ⟨i, hi⟩ := info_of_cells hn
    unfold Instr.sliceAt
    rw [run_bind_ok (run_underlying hT w)]
    show (Instr.slice T _ _ _ _).run P w = _
    unfold Instr.slice
    rw [run_bind_ok (run_underlying hT w)]
    show ((Instr.sliceBounds true len cap _ _ none >>= fun (l, h, m) => sizeOf e >>= fun size => pure (Value.slice (if m = l then ad else ad.map (·.add (l * size))) (h - l) (m - l))) : Sem Value).run P w = _
    rw [run_bind_ok hb, run_bind_ok (run_sizeOf' hi w)]
    rfl
  split at h
  · rename_i l0 hT
    obtain ⟨s, rfl, rfl⟩ := V_str hx
    obtain ⟨l, r, h1, h2, hb, hK⟩ := run_bnd (P := P) (isS := false) (cap := s.data.toList.length) R (Nat.le_refl _) h
    have hsz : s.size = s.data.toList.length := by rw [Array.length_toList]; rfl
    refine ⟨_, .string (s.extract l r), ?_, ?_, hK⟩
    · unfold Instr.sliceAt
      rw [run_bind_ok (run_underlying hT w)]
      show (Instr.slice T _ _ _ _).run P w = _
      unfold Instr.slice
      rw [run_bind_ok (run_underlying hT w)]
      show ((Instr.sliceBounds false s.size s.size _ _ none >>= fun (l, h, _) => pure (Value.string (s.extract l h))) : Sem Value).run P w = _
      rw [hsz, run_bind_ok hb]; rfl
    · have : (s.extract l r).data.toList = (s.data.toList.drop l).take (r - l) := by
        simp [ByteArray.data_extract, List.take_drop]
      rw [← this]
      exact .str _
  · rename_i e s es hT
    obtain ⟨rfl, hn, h⟩ := h
    rcases V_sl_iff.1 hx with ⟨rfl, rfl⟩ | ⟨g, off, cap, cur, T', fr, rfl, hH, hc, hfit, hr⟩
    · obtain ⟨l, r, h1, h2, hb, hK⟩ := run_bnd (P := P) (isS := true) (cap := 0) R (by simp) h
      simp at h2
      subst h2
      obtain rfl : l = 0 := by omega
      exact ⟨_, _, sl e none 0 0 0 0 hT hn hb, by simp; exact .sl0 _, hK⟩
    · obtain ⟨l, r, h1, h2, hb, hK⟩ := run_bnd (P := P) (isS := true) (cap := cap) R hc h
      refine ⟨_, _, sl e _ _ _ _ _ hT hn hb, ?_, hK⟩
      have hlen : ((es.drop l).take (r - l)).length = r - l := by simp; omega
      show V H _ _
      by_cases hcl : cap = l
      · rw [if_pos hcl]
        exact V_sl_mk hlen hH (by omega) (fun h => absurd (List.eq_nil_of_length_eq_zero (by omega)) h) ⟨fun e he => hr.1 e (List.mem_of_mem_drop (List.mem_of_mem_take he)), fun i e t x he _ => by
          have := getElem?_lt he
          omega⟩
      · rw [if_neg hcl]
        have : (some (⟨g, off, none⟩ : Addr)).map (·.add (l * P.cellsOf e)) = some ⟨g, off + l * P.cellsOf e, none⟩ := by simp [addr_add]
        rw [this]
        refine V_sl_mk hlen hH (by omega) (fun hne => ?_) (hr.sub l (r - l))
        have : es ≠ [] := by rintro rfl; simp at hne
        have h3 := hfit this
        have h4 := Nat.mul_le_mul_right (P.cellsOf e) h2
        have h5 : l * P.cellsOf e + (r - l) * P.cellsOf e = r * P.cellsOf e := by rw [← Nat.add_mul]; congr 1; omega
        rw [hlen]
        omega
  · rename_i e k hT
    split at h
    · rename_i e' s es hS
      obtain ⟨rfl, hn, h⟩ := h
      obtain ⟨v', hv', hh⟩ := R.owner_val hx.1
      rw [hx.2] at hv'; cases hv'
      rw [hS] at hh
      rcases hh with ⟨rfl, rfl, hbk⟩ | ⟨g, cap, cur, hbk, rfl, _, hc, _⟩
      · obtain ⟨l, r, h1, h2, hb, hK⟩ := run_bnd (P := P) (isS := true) (cap := 0) R (by simp) h
        simp at h2
        subst h2
        obtain rfl : l = 0 := by omega
        exact ⟨.rs k 0 (0 - 0), _, sl e none 0 0 0 0 hT hn hb, ⟨_, _, _, hS, by simp, .inl ⟨hbk, by simp, rfl⟩⟩, hK⟩
      · obtain ⟨l, r, h1, h2, hb, hK⟩ := run_bnd (P := P) (isS := true) (cap := cap) R hc h
        refine ⟨.rs k l (r - l), _, sl e _ _ _ _ _ hT hn hb, ⟨_, _, _, hS, by omega, .inr ?_⟩, hK⟩
        by_cases hcl : cap = l
        · exact ⟨g, 0, cap - l, hbk, by omega, by simp [hcl], fun hne => by omega⟩
        · exact ⟨g, l * P.cellsOf e, cap - l, hbk, by omega, by simp [hcl, addr_add], fun _ => rfl⟩
    · exact h.elim
  · rename_i e k a0 n hT
    obtain ⟨hs, hn, h⟩ := h
    obtain ⟨e', s, es, hS, hl, hr⟩ := hx
    rw [hS] at hs
    simp only [AV.esz] at hs
    subst hs
    rcases hr with ⟨hbk, rfl, rfl⟩ | ⟨g, off, cap, hbk, hc, rfl, hoff⟩
    · obtain ⟨l, r, h1, h2, hb, hK⟩ := run_bnd (P := P) (isS := true) (cap := 0) R (by simp) h
      obtain rfl : r = 0 := by omega
      obtain rfl : l = 0 := by omega
      exact ⟨.rs k (a0 + 0) (0 - 0), _, sl e none 0 0 0 0 hT hn hb, ⟨_, _, _, hS, by omega, .inl ⟨hbk, by simp, rfl⟩⟩, hK⟩
    · obtain ⟨l, r, h1, h2, hb, hK⟩ := run_bnd (P := P) (isS := true) (cap := cap) R hc h
      refine ⟨.rs k (a0 + l) (r - l), _, sl e _ _ _ _ _ hT hn hb, ⟨_, _, _, hS, by omega, .inr ?_⟩, hK⟩
      by_cases hcl : cap = l
      · exact ⟨g, off, cap - l, hbk, by omega, by simp [hcl], fun hne => by omega⟩
      · refine ⟨g, off + l * P.cellsOf e, cap - l, hbk, by omega, by simp [hcl, addr_add], fun hne => ?_⟩
        rw [hoff (by omega), Nat.add_mul]
  · exact h.elim
end
end Go.Proofs.YtcmaledchnhccaaGreatDoor

/-! The abstract meaning of the small operations. No condition. -/
namespace Go.Proofs.YtcmaledchnhccaaGreatDoor
open Go Go.RowKit

section
variable {C : Ctx} {H : Imm} {γ : Nat → List Nat} {S : Nat → AV} {tmps : Array Value} {w w' : World} {P : Program}

/-! ### a tuple's part, a nil check, a choice, 'not', 'minus', a text's byte -/
def aExtract (x : AV) (i : Nat) (K : AV → Prop) : Prop :=
  match x with
  | .tup vs => (match vs[i]? with
    | some y => K y
    | none => False)
  | _ => False
theorem run_extract {x : AV} {v : Value} {i : Nat} {K : AV → Prop} (hx : AOK H γ S tmps x v) (h : aExtract x i K) :
    ∃ z u, (Instr.extract v i).run P w = .ok u w ∧ V H z u ∧ K z := by
  unfold aExtract at h
  split at h
  · rename_i vs
    obtain ⟨arr, rfl, hn, hr⟩ := V_tup_iff.1 hx
    split at h
    · rename_i y hy
      obtain ⟨c, hc, hv⟩ := hr i y hy
      refine ⟨y, c, ?_, hv, h⟩
      simp only [Instr.extract, hc]; rfl
    · exact h.elim
  · exact h.elim

def aNilCheck (S : Nat → AV) (x : AV) (K : AV → Prop) : Prop :=
  match x with
  | .ip .. | .rp .. | .fn .. => K x
  | .rf k => (match S k with
    | .bx .. => K (.rf k)
    | .op R => (∀ w bs v, R w bs v → ∃ a, v = .pointer (some a)) ∧ K (.rf k)
    | _ => False)
  | _ => False
theorem run_nilCheck (R : Rel C H γ S tmps w) {ρ : Operand → Value} {o : Oper} {xo : Operand} {x : AV} {K : AV → Prop} (ho : o.op = .nilCheck xo) (hx : AOK H γ S tmps x (ρ xo)) (h : aNilCheck S x K) :
    ∃ z u, (execOp ρ o).run P w = .ok (.value u) w ∧ AOK H γ S tmps z u ∧ K z := by
  have main : ∀ a, ρ xo = .pointer (some a) → (execOp ρ o).run P w = .ok (.value (ρ xo)) w := by
    intro a ha
    unfold execOp
    rw [ho]
    simp only [ha]; rfl
  unfold aNilCheck at h
  split at h
  · obtain ⟨g, off, cur, T', fr, hv, _⟩ := V_ip_iff.1 hx
    exact ⟨_, _, main _ hv, hx, h⟩
  · rename_i k i o
    obtain ⟨g, hg, hv⟩ := hx
    exact ⟨.rp k i o, _, main _ hv, ⟨g, hg, hv⟩, h⟩
  · obtain ⟨arr, hv, _⟩ := V_fn_iff.1 hx
    refine ⟨_, _, ?_, hx, h⟩
    unfold execOp
    rw [ho]
    simp only [hv]; rfl
  · rename_i k
    obtain ⟨v', hv', hh⟩ := R.owner_val hx.1
    have h2 := hx.2
    rw [h2] at hv'; cases hv'
    split at h
    · rename_i e s es hS
      rw [hS] at hh
      obtain ⟨g, cur, hb, hv, _⟩ := hh
      exact ⟨.rf k, _, main _ hv, hx, h⟩
    · rename_i R' hS
      rw [hS] at hh
      obtain ⟨a, ha⟩ := h.1 _ _ _ hh.1
      exact ⟨.rf k, _, main _ ha, hx, h.2⟩
    · exact h.elim
  · exact h.elim

def aUn (op : UnOp) (x : AV) (K : AV → Prop) : Prop :=
  match op, x with
  | .not, .bool b => K (.bool (!b))
  | .neg, .int k n => K (.int k (k.wrap (0 - n)))
  | _, _ => False
theorem run_un {op : UnOp} {x : AV} {v : Value} {K : AV → Prop} (hx : AOK H γ S tmps x v) (h : aUn op x K) :
    ∃ z u, (Op.unary op v).run P w = .ok u w ∧ V H z u ∧ K z := by
  unfold aUn at h
  split at h
  · have := V_bool hx; subst this
    exact ⟨_, _, rfl, .bool _, h⟩
  · have := V_int hx; subst this
    exact ⟨_, _, rfl, .int _ _, h⟩
  · exact h.elim

def aStrIdx (P : Program) (T : TypeId) (x : AV) (n : Int) (K : AV → Prop) : Prop :=
  match P.underlying T, x with
  | some .string, .str l => 0 ≤ n ∧ ∃ b, l[n.toNat]? = some b ∧ K (.int .u8 b.toNat)
  | _, _ => False
theorem run_strIdx {T : TypeId} {x : AV} {v : Value} {k : IntKind} {n : Int} {K : AV → Prop} (hx : AOK H γ S tmps x v) (h : aStrIdx P T x n K) :
    ∃ z u, (Instr.index T v (.int k n)).run P w = .ok u w ∧ V H z u ∧ K z := by
  unfold aStrIdx at h
  split at h
  · rename_i l hT
    obtain ⟨h0, b, hb, hK⟩ := h
    obtain ⟨s, rfl, rfl⟩ := V_str hx
    refine ⟨_, _, ?_, .int _ _, hK⟩
    have hsb : s[n.toNat]? = some b := by
      have := getElem?_lt hb
      rw [getElem?_pos s n.toNat (by simpa using this)]
      rw [List.getElem?_eq_getElem this] at hb
      cases hb
      rfl
    unfold Instr.index
    simp only [asIntOf, run_underlying hT, go_sem, Sem.run_bind, Result.andThen_ok]
    simp [h0, hsb]
  · exact h.elim

def aConv (P : Program) (src dst : TypeId) (x : AV) (K : AV → Prop) : Prop :=
  match P.underlying src, P.underlying dst, x with
  | some _, some (.int k), .int _ n => K (.int k (k.wrap n))
  | some .string, some .string, .str s => K (.str s)
  | _, _, _ => False
theorem run_conv {src dst : TypeId} {x : AV} {v : Value} {K : AV → Prop} (hx : AOK H γ S tmps x v) (h : aConv P src dst x K) :
    ∃ z u, (convert src dst v).run P w = .ok u w ∧ V H z u ∧ K z := by
  unfold aConv at h
  split at h
  · rename_i d k k' n hs hd
    have := V_int hx; subst this
    refine ⟨_, _, ?_, .int _ _, h⟩
    unfold convert
    rw [run_bind_ok (run_underlying hs w), run_bind_ok (run_underlying hd w)]
    rfl
  · rename_i s hs hd
    obtain ⟨t, rfl, rfl⟩ := V_str hx
    refine ⟨_, _, ?_, .str _, h⟩
    unfold convert
    rw [run_bind_ok (run_underlying hs w), run_bind_ok (run_underlying hd w)]
    rfl
  · exact h.elim

/-! ### against nil -/
def isNilC : Operand → Bool
  | .const (.pointer none) => true
  | .const (.slice none 0 0) => true
  | _ => false
/-- is it nil? a slice without elements may be, or not -/
def aIsNil (P : Program) (S : Nat → AV) (T : TypeId) (x : AV) (K : Bool → Prop) : Prop :=
  match P.underlying T, x with
  | some (.pointer _), .nilp => K true
  | some (.pointer _), .ip .. => K false
  | some (.pointer _), .rp .. => K false
  | some (.pointer _), .rf k => (match S k with
    | .bx .. => K false
    | .op R => (∀ w bs v, R w bs v → ∃ a, v = .pointer (some a)) ∧ K false
    | _ => False)
  | some (.slice _), .sl _ es => ∀ b, (es ≠ [] → b = false) → K b
  | some (.slice _), .rf k => (match S k with
    | .ow _ _ es => ∀ b, (es ≠ [] → b = false) → K b
    | _ => False)
  | some (.slice _), .rs _ _ n => ∀ b, (n ≠ 0 → b = false) → K b
  | _, _ => False
theorem run_isNil (R : Rel C H γ S tmps w) {T : TypeId} {x : AV} {v c : Value} {K : Bool → Prop} (hx : AOK H γ S tmps x v) (h : aIsNil P S T x K) (hc : c = .pointer none ∧ (∃ e, P.underlying T = some (.pointer e)) ∨ c = .slice none 0 0 ∧ (∃ e, P.underlying T = some (.slice e))) :
    ∃ b, (Op.equal T v c).run P w = .ok b w ∧ K b ∧ ((∃ p, v = .pointer p) ∨ ∃ p n m, v = .slice p n m) := by
  have ptr : ∀ (a : Option Addr) (e : TypeId), P.underlying T = some (.pointer e) → (Op.equal T (.pointer a) (.pointer none)).run P w = .ok a.isNone w := by
    intro a e hT
    show (Op.equalIn (9999 + 1) _ _ _).run P w = _
    unfold Op.equalIn
    rw [run_bind_ok (run_underlying hT w)]
    cases a <;> rfl
  have slc : ∀ (a : Option Addr) (n m : Nat) (e : TypeId), P.underlying T = some (.slice e) → (Op.equal T (.slice a n m) (.slice none 0 0)).run P w = .ok a.isNone w := by
    intro a n m e hT
    show (Op.equalIn (9999 + 1) _ _ _).run P w = _
    unfold Op.equalIn
    rw [run_bind_ok (run_underlying hT w)]
    cases a <;> rfl
  unfold aIsNil at h
  split at h
  · rename_i e hT
    rcases hc with ⟨rfl, _⟩ | ⟨_, e', he'⟩
    · have hv := V_nilp hx
      subst hv
      exact ⟨_, ptr _ e hT, h, .inl ⟨_, rfl⟩⟩
    · rw [hT] at he'; cases he'
  · rename_i e s es i o hT
    rcases hc with ⟨rfl, _⟩ | ⟨_, e', he'⟩
    · obtain ⟨g, off, cur, T', fr, rfl, _⟩ := V_ip_iff.1 hx
      exact ⟨_, ptr _ e hT, h, .inl ⟨_, rfl⟩⟩
    · rw [hT] at he'; cases he'
  · rename_i e k i o hT
    rcases hc with ⟨rfl, _⟩ | ⟨_, e', he'⟩
    · obtain ⟨g, hg, rfl⟩ := hx
      exact ⟨_, ptr _ e hT, h, .inl ⟨_, rfl⟩⟩
    · rw [hT] at he'; cases he'
  · rename_i e k hT
    rcases hc with ⟨rfl, _⟩ | ⟨_, e', he'⟩
    · obtain ⟨v', hv', hh⟩ := R.owner_val hx.1
      rw [hx.2] at hv'; cases hv'
      split at h
      · rename_i e1 s es hS
        rw [hS] at hh
        obtain ⟨g, cur, hb, rfl, _⟩ := hh
        exact ⟨_, ptr _ e hT, h, .inl ⟨_, rfl⟩⟩
      · rename_i R' hS
        rw [hS] at hh
        obtain ⟨a, rfl⟩ := h.1 _ _ _ hh.1
        exact ⟨_, ptr _ e hT, h.2, .inl ⟨_, rfl⟩⟩
      · exact h.elim
    · rw [hT] at he'; cases he'
  · rename_i e s es hT
    rcases hc with ⟨_, e', he'⟩ | ⟨rfl, _⟩
    · rw [hT] at he'; cases he'
    · rcases V_sl_iff.1 hx with ⟨rfl, rfl⟩ | ⟨g, off, cap, cur, T', fr, rfl, _⟩
      · exact ⟨_, slc _ _ _ e hT, h _ (by simp), .inr ⟨_, _, _, rfl⟩⟩
      · exact ⟨_, slc _ _ _ e hT, h _ (by simp), .inr ⟨_, _, _, rfl⟩⟩
  · rename_i e k hT
    split at h
    · rename_i e1 s es hS
      rcases hc with ⟨_, e', he'⟩ | ⟨rfl, _⟩
      · rw [hT] at he'; cases he'
      · obtain ⟨v', hv', hh⟩ := R.owner_val hx.1
        rw [hx.2] at hv'; cases hv'
        rw [hS] at hh
        rcases hh with ⟨rfl, rfl, _⟩ | ⟨g, cap, cur, hb, rfl, _⟩
        · exact ⟨_, slc _ _ _ e hT, h _ (by simp), .inr ⟨_, _, _, rfl⟩⟩
        · exact ⟨_, slc _ _ _ e hT, h _ (by simp), .inr ⟨_, _, _, rfl⟩⟩
    · exact h.elim
  · rename_i e k a n hT
    rcases hc with ⟨_, e', he'⟩ | ⟨rfl, _⟩
    · rw [hT] at he'; cases he'
    · obtain ⟨e1, s, es, hS, hl, hr⟩ := hx
      rcases hr with ⟨_, rfl, rfl⟩ | ⟨g, off, cap, hb, hcc, rfl, hoff⟩
      · exact ⟨_, slc _ _ _ e hT, h _ (by simp), .inr ⟨_, _, _, rfl⟩⟩
      · exact ⟨_, slc _ _ _ e hT, h _ (by simp), .inr ⟨_, _, _, rfl⟩⟩
  · exact h.elim
end
end Go.Proofs.YtcmaledchnhccaaGreatDoor

/-! The abstract meaning of what makes memory: variables, boxes, rows; and of struct values. No condition. -/
namespace Go.Proofs.YtcmaledchnhccaaGreatDoor
open Go Go.RowKit

def zeroA (P : Program) (T : TypeId) : Option (List AV) :=
  match (P.info? T).bind (·.zero) with
  | some z => some (z.cells.toList.map ofConst)
  | none => none
theorem ofConst_V {H : Imm} {v : Value} (h : (ofConst v).sc = true) : V H (ofConst v) v := by
  unfold ofConst at h ⊢
  split at h
  · exact .int _ _
  · exact .bool _
  · exact .str _
  · exact .nilp
  · exact .sl0 _
  · cases h
theorem zero_ok {P : Program} {T : TypeId} {cs : List AV} (h : zeroA P T = some cs) (hs : cs.all AV.sc = true) (H : Imm) (w : World) :
    ∃ z : Value, (zeroValue T).run P w = .ok z w ∧ Vs H cs z.cells ∧ (∃ i, P.info? T = some i ∧ i.zero = some z) := by
  unfold zeroA at h
  split at h
  · rename_i z hz
    cases h
    rw [Option.bind_eq_some_iff] at hz
    obtain ⟨i, hi, hz⟩ := hz
    refine ⟨z, ?_, ⟨by simp, fun j x hx => ?_⟩, i, hi, hz⟩
    · unfold zeroValue
      rw [run_bind_ok (run_typeInfo hi w)]
      simp only [hz]; rfl
    · rw [List.getElem?_map, Option.map_eq_some_iff] at hx
      obtain ⟨c, hc, rfl⟩ := hx
      refine ⟨c, by rw [← Array.getElem?_toList]; exact hc, ofConst_V ?_⟩
      rw [List.all_eq_true] at hs
      exact hs _ (List.mem_map.2 ⟨c, List.mem_of_getElem? hc, rfl⟩)
  · cases h

section
variable {C : Ctx} {H : Imm} {γ : Nat → List Nat} {S : Nat → AV} {tmps : Array Value} {w w' : World} {P : Program}

def ownK (o : Oper) (S : Nat → AV) (K : (Nat → AV) → Prop) (y : AV) : Prop :=
  match o.dst with
  | some d => K (put S d y)
  | none => False
theorem op_own {o : Oper} {a : Act} {K : (Nat → AV) → Prop} {Q : Exit → Act → World → Prop} {y : AV} {v : Value} {bs : List Nat} (hdf : a.defers = []) (hgo : Good C o)
    (hrun : (execOp a.eval o).run P w = .ok (.value v) w') (R : Rel C H γ S a.tmps w) (hB : Below w.heap.size w w') (hh : Held H w' bs y v) (hf : ∀ g, g ∈ bs → w.heap.size ≤ g ∧ g < w'.heap.size)
    (ho : y.owner = true) (hK : ownK o S K y) : o.wp P a w (Post C K) Q := by
  unfold Oper.wp
  rw [hrun, Oper.upon_value]
  unfold ownK at hK
  unfold Act.put
  cases hd : o.dst with
  | none => rw [hd] at hK; exact hK.elim
  | some d =>
    rw [hd] at hK
    obtain ⟨h1, h2⟩ := hgo d hd
    have hyr : y.isRef = false := by cases y <;> first | rfl | cases ho
    refine ⟨hdf, _, H, updN γ d bs, hK, (R.world hB).put_gen (by rw [R.sz]; exact h1) h2 ((SOK_of_held (by rw [put_self]; exact hyr)).2 (by rw [put_self]; simpa [updN] using hh)) (fun h => by rw [ho] at h; cases h) ?_ ?_⟩
    · intro g hg
      obtain ⟨a1, a2⟩ := hf g hg
      exact ⟨R.fresh_H a1, a2, .inl (Nat.le_trans R.fr.size a1)⟩
    · intro i g _ hg hgb
      have := (R.own i g hg).2.1
      have := (hf g hgb).1
      omega

theorem rowRel_one {cs : List AV} {arr : Array Value} (h : Vs H cs arr) (hs : ∀ (j : Nat) (x : AV), cs[j]? = some x → x.sc = true) : RowRel H cs.length [cs] arr 0 := by
  refine ⟨by simp, fun i e t x he hx => ?_⟩
  cases i with
  | zero =>
    simp at he
    subst he
    obtain ⟨c, hc, hv⟩ := h.2 t x hx
    exact ⟨hs t x hx, c, by simpa using hc, hv⟩
  | succ i => simp at he

/-- a new box -/
theorem op_box {o : Oper} {a : Act} {K : (Nat → AV) → Prop} {Q : Exit → Act → World → Prop} {T : TypeId} {cs : List AV} {arr : Array Value} (hdf : a.defers = []) (hgo : Good C o)
    (hrun : (execOp a.eval o).run P w = .ok (.value (.pointer (some ⟨w.heap.size, 0, none⟩))) (w.alloc (.cells arr T))) (R : Rel C H γ S a.tmps w) (hv : Vs H cs arr) (hs : ∀ (j : Nat) (x : AV), cs[j]? = some x → x.sc = true)
    (hK : ownK o S K (.bx T cs.length [cs])) : o.wp P a w (Post C K) Q := by
  refine op_own (y := .bx T cs.length [cs]) (bs := [w.heap.size]) hdf hgo hrun R ((Below.refl _ _).alloc (Nat.le_refl _) _) ⟨w.heap.size, arr, rfl, rfl, heap_alloc_new w _, by simp [hv.1], rowRel_one hv hs⟩ (by simp) rfl hK

def aAlloc (P : Program) (T : TypeId) (K : AV → Prop) : Prop :=
  match zeroA P T with
  | some cs => cs.all AV.sc = true ∧ K (.bx T cs.length [cs])
  | none => False
theorem op_alloc {o : Oper} {a : Act} {K : (Nat → AV) → Prop} {Q : Exit → Act → World → Prop} {T : TypeId} (ho : o.op = .alloc T) (hdf : a.defers = []) (hgo : Good C o) (R : Rel C H γ S a.tmps w)
    (h : aAlloc P T (ownK o S K)) : o.wp P a w (Post C K) Q := by
  unfold aAlloc at h
  split at h
  · rename_i cs hz
    obtain ⟨hs, hK⟩ := h
    obtain ⟨z, hrun, hv, _⟩ := zero_ok hz hs H w
    refine op_box (arr := z.cells) hdf hgo ?_ R hv (fun j x hx => by rw [List.all_eq_true] at hs; exact hs _ (List.mem_of_getElem? hx)) hK
    unfold execOp
    rw [ho]
    show ((Instr.alloc T true (.tuple #[]) >>= fun v => pure (Next.value v)) : Sem Next).run P w = _
    have : (Instr.alloc T true (.tuple #[])).run P w = .ok (.pointer (some ⟨w.heap.size, 0, none⟩)) (w.alloc (.cells z.cells T)) := by
      unfold Instr.alloc
      rw [run_bind_ok hrun]
      rfl
    rw [run_bind_ok this]; rfl
  · exact h.elim

theorem flat_sc {y : AV} {u : Value} (h : V H y u) (hf : y.flat = true) : ∀ (j : Nat) (x : AV), (cellsV y)[j]? = some x → x.sc = true := fun j x hx => ((cells_ok h hf).2 j x hx).1

/-- a box of a value -/
theorem op_boxv {o : Oper} {a : Act} {K : (Nat → AV) → Prop} {Q : Exit → Act → World → Prop} {T : TypeId} {xo : Operand} (ho : o.op = .box T xo) (hdf : a.defers = []) (hgo : Good C o) (R : Rel C H γ S a.tmps w)
    (h : pst S (evA S xo) fun S' y => y.flat = true ∧ ownK o S' K (.bx T (cellsV y).length [cellsV y])) : o.wp P a w (Post C K) Q := by
  obtain ⟨S', H', γ', y, ⟨hf, hK⟩, R', hv⟩ := pst_ok R (evA_ok R xo) h
  obtain ⟨hn, hr⟩ := cells_ok hv hf
  refine op_box (arr := (a.eval xo).cells) hdf hgo ?_ R' ⟨hn, fun j x hx => (hr j x hx).2⟩ (flat_sc hv hf) hK
  unfold execOp
  rw [ho]
  rfl

/-! ### struct values, rows of elements -/
/-- operands' values, what they own frozen -/
def pstL : (Nat → AV) → List Operand → ((Nat → AV) → List AV → Prop) → Prop
  | S, [], K => K S []
  | S, x :: xs, K => pst S (evA S x) fun S' y => pstL S' xs fun S'' ys => K S'' (y :: ys)
theorem pstL_ok {a : Act} {xs : List Operand} : ∀ {H : Imm} {γ : Nat → List Nat} {S : Nat → AV} {K : (Nat → AV) → List AV → Prop}, Rel C H γ S a.tmps w → pstL S xs K →
    ∃ S' H' γ' ys, H.le H' ∧ K S' ys ∧ Rel C H' γ' S' a.tmps w ∧ ys.length = xs.length ∧ ∀ (j : Nat) (x : Operand) (y : AV), xs[j]? = some x → ys[j]? = some y → V H' y (a.eval x) := by
  induction xs with
  | nil => intro H γ S K R h; exact ⟨S, H, γ, [], Imm.le_refl _, h, R, rfl, by simp⟩
  | cons x xs ih =>
    intro H γ S K R h
    obtain ⟨S1, H1, γ1, y, h1, R1, hv⟩ := pst_ok' R (evA_ok R x) h
    obtain ⟨S2, H2, γ2, ys, hle, hK, R2, hn, hr⟩ := ih R1 h1.2
    refine ⟨S2, H2, γ2, y :: ys, Imm.le_trans h1.1 hle, hK, R2, by simp [hn], fun j x' y' hx hy => ?_⟩
    cases j with
    | zero => simp at hx hy; subst hx hy; exact hv.mono hle
    | succ j => simp at hx hy; exact hr j x' y' hx hy
end
end Go.Proofs.YtcmaledchnhccaaGreatDoor

/-! The abstract meaning of struct values and of rows of elements written out. No condition. -/
namespace Go.Proofs.YtcmaledchnhccaaGreatDoor
open Go Go.RowKit

def fillA (place : Nat → Option (Nat × Nat)) : List AV → List (Nat × AV) → Option (List AV)
  | cells, [] => some cells
  | cells, (i, y) :: rest =>
    match place i with
    | none => none
    | some (off, size) => if y.flat = true ∧ (cellsV y).length = size ∧ off + size ≤ cells.length then fillA place (splice cells off (cellsV y)) rest else none

theorem foldl_zip (off : Nat) : ∀ (vs : List Value) (k : Nat) (arr : Array Value), off + k + vs.length ≤ arr.size →
    ((vs.zipIdx k).foldl (fun cs (x : Value × Nat) => cs.setIfInBounds (off + x.2) x.1) arr).size = arr.size ∧
    ∀ p, ((vs.zipIdx k).foldl (fun cs (x : Value × Nat) => cs.setIfInBounds (off + x.2) x.1) arr)[p]? = if off + k ≤ p ∧ p < off + k + vs.length then vs[p - (off + k)]? else arr[p]?
  | [], k, arr, h => by
    refine ⟨rfl, fun p => ?_⟩
    have : ¬ (off + k ≤ p ∧ p < off + k + 0) := by omega
    simp only [List.length_nil, this, if_false]
    rfl
  | v :: vs, k, arr, h => by
    simp only [List.length_cons] at h
    obtain ⟨h1, h2⟩ := foldl_zip off vs (k + 1) (arr.setIfInBounds (off + k) v) (by rw [Array.size_setIfInBounds]; omega)
    simp only [List.zipIdx_cons, List.foldl_cons]
    refine ⟨by rw [h1, Array.size_setIfInBounds], fun p => ?_⟩
    rw [h2, Array.getElem?_setIfInBounds]
    by_cases hp : off + k = p
    · subst hp
      have a1 : ¬ (off + (k + 1) ≤ off + k ∧ off + k < off + (k + 1) + vs.length) := by omega
      have a2 : off + k ≤ off + k ∧ off + k < off + k + (vs.length + 1) := by omega
      have a3 : off + k < arr.size := by omega
      simp only [List.length_cons]
      rw [if_neg a1, if_pos a2, if_pos trivial, if_pos a3]
      simp
    · by_cases hq : off + (k + 1) ≤ p ∧ p < off + (k + 1) + vs.length
      · have a2 : off + k ≤ p ∧ p < off + k + (vs.length + 1) := by omega
        simp only [List.length_cons]
        rw [if_pos hq, if_pos a2]
        have : p - (off + k) = (p - (off + (k + 1))) + 1 := by omega
        rw [this, List.getElem?_cons_succ]
      · have a2 : ¬ (off + k ≤ p ∧ p < off + k + (vs.length + 1)) := by omega
        simp only [List.length_cons, hq, a2, if_false, hp]

theorem fold_splice {H : Imm} {cs ys : List AV} {arr : Array Value} {us : Array Value} {off : Nat} (h : Vs H cs arr) (hu : Vs H ys us) (hfit : off + ys.length ≤ cs.length) :
    Vs H (splice cs off ys) (us.zipIdx.foldl (fun cs (x : Value × Nat) => cs.setIfInBounds (off + x.2) x.1) arr) := by
  have hl := foldl_zip off us.toList 0 arr (by simp only [Array.length_toList]; rw [hu.1, h.1]; omega)
  rw [← Array.foldl_toList, Array.toList_zipIdx]
  refine ⟨by rw [hl.1, splice_length hfit]; exact h.1, fun j x hx => ?_⟩
  rw [splice_get hfit] at hx
  rw [hl.2]
  simp only [Nat.add_zero, Array.length_toList, hu.1]
  by_cases hj : off ≤ j ∧ j < off + ys.length
  · rw [if_pos hj] at hx ⊢
    obtain ⟨c, hc, hv⟩ := hu.2 _ _ hx
    exact ⟨c, by rw [Array.getElem?_toList]; exact hc, hv⟩
  · rw [if_neg hj] at hx ⊢
    exact h.2 _ _ hx
theorem splice_sc {cs ys : List AV} {off : Nat} (hfit : off + ys.length ≤ cs.length) (h : ∀ (j : Nat) (x : AV), cs[j]? = some x → x.sc = true) (hy : ∀ (j : Nat) (x : AV), ys[j]? = some x → x.sc = true) :
    ∀ (j : Nat) (x : AV), (splice cs off ys)[j]? = some x → x.sc = true := by
  intro j x hx
  rw [splice_get hfit] at hx
  split at hx
  · exact hy _ _ hx
  · exact h _ _ hx

theorem fill_ok {H : Imm} (place : Nat → Option (Nat × Nat)) : ∀ (ps : List (Nat × AV)) (qs : List (Nat × Value)) (cs out : List AV) (arr : Array Value), Vs H cs arr → (∀ (j : Nat) (x : AV), cs[j]? = some x → x.sc = true) →
    qs.length = ps.length → (∀ (j i i' : Nat) (y : AV) (u : Value), ps[j]? = some (i, y) → qs[j]? = some (i', u) → i' = i ∧ V H y u) → fillA place cs ps = some out →
    ∃ arr', Instr.fill place arr qs = some arr' ∧ Vs H out arr' ∧ ∀ (j : Nat) (x : AV), out[j]? = some x → x.sc = true
  | [], qs, cs, out, arr, hv, hs, hn, hr, hf => by
    obtain rfl : qs = [] := List.eq_nil_of_length_eq_zero hn
    cases hf
    exact ⟨arr, rfl, hv, hs⟩
  | (i, y) :: ps, [], cs, out, arr, hv, hs, hn, hr, hf => by simp at hn
  | (i, y) :: ps, (i', u) :: qs, cs, out, arr, hv, hs, hn, hr, hf => by
    obtain ⟨rfl, hyu⟩ := hr 0 i i' y u rfl rfl
    unfold fillA at hf
    unfold Instr.fill
    cases hp : place i' with
    | none => rw [hp] at hf; cases hf
    | some os =>
      obtain ⟨off, size⟩ := os
      rw [hp] at hf
      simp only at hf ⊢
      split at hf
      · rename_i hc
        obtain ⟨h1, h2, h3⟩ := hc
        obtain ⟨c1, c2⟩ := cells_ok hyu h1
        have hfit : off + (cellsV y).length ≤ cs.length := by omega
        rw [if_neg (by rw [c1, h2, hv.1]; simp; omega)]
        exact fill_ok place ps qs _ out _ (fold_splice hv ⟨c1, fun j x hx => (c2 j x hx).2⟩ hfit) (splice_sc hfit hs fun j x hx => (c2 j x hx).1) (by simpa using hn)
          (fun j a b c d e f => hr (j + 1) a b c d (by simpa using e) (by simpa using f)) hf
      · cases hf

def placesA (P : Program) (T : TypeId) : Option (Nat → Option (Nat × Nat)) :=
  match P.underlying T with
  | some (.struct fields) => (fields.toList.mapM (fun f => (P.info? f.type).map fun i => (f.offset, i.size))).map fun ps i => ps[i]?
  | some (.array _ e) => (P.info? e).map fun ie i => some (i * ie.size, ie.size)
  | _ => none
def aBuild (P : Program) (S : Nat → AV) (T : TypeId) (parts : List (Nat × Operand)) (K : (Nat → AV) → AV → Prop) : Prop :=
  match zeroA P T, placesA P T with
  | some cs, some pl => cs.all AV.sc = true ∧ pstL S (parts.map (·.2)) fun S' ys =>
      (match fillA pl cs ((parts.map (·.1)).zip ys) with
      | some out => K S' (.agg out)
      | none => False)
  | _, _ => False

section
variable {C : Ctx} {H : Imm} {γ : Nat → List Nat} {S : Nat → AV} {w w' : World} {P : Program}
theorem run_abuild {a : Act} (R : Rel C H γ S a.tmps w) {T : TypeId} {parts : Array (Nat × Operand)} {K : (Nat → AV) → AV → Prop} (h : aBuild P S T parts.toList K) :
    ∃ S' H' γ' z u, (Instr.build T (parts.map fun (i, x) => (i, a.eval x))).run P w = .ok u w ∧ K S' z ∧ Rel C H' γ' S' a.tmps w ∧ V H' z u := by
  unfold aBuild at h
  split at h
  · rename_i cs pl hz hpl
    obtain ⟨hs, h⟩ := h
    obtain ⟨S', H', γ', ys, hle, hK, R', hn, hr⟩ := pstL_ok R h
    split at hK
    · rename_i out hf
      obtain ⟨z, _, hzv, ti, hti, htz⟩ := zero_ok (P := P) hz hs H' w
      have hq : (parts.map fun (i, x) => (i, a.eval x)).toList = parts.toList.map fun (i, x) => (i, a.eval x) := by simp
      have hrel : ∀ (j i i' : Nat) (y : AV) (u : Value), ((parts.toList.map (·.1)).zip ys)[j]? = some (i, y) → (parts.toList.map fun (i, x) => (i, a.eval x))[j]? = some (i', u) → i' = i ∧ V H' y u := by
        intro j i i' y u h1 h2
        rw [List.getElem?_zip_eq_some] at h1
        obtain ⟨h1, h3⟩ := h1
        rw [List.getElem?_map, Option.map_eq_some_iff] at h1 h2
        obtain ⟨⟨p1, p2⟩, hp, rfl⟩ := h1
        obtain ⟨⟨q1, q2⟩, hq, he⟩ := h2
        rw [hp] at hq; cases hq
        cases he
        exact ⟨rfl, hr j p2 y (by rw [List.getElem?_map, hp]; rfl) h3⟩
      obtain ⟨arr, hfill, hv, hsc⟩ := fill_ok pl _ (parts.toList.map fun (i, x) => (i, a.eval x)) cs out z.cells hzv (fun j x hx => by rw [List.all_eq_true] at hs; exact hs _ (List.mem_of_getElem? hx)) (by simp at hn ⊢; omega) hrel hf
      refine ⟨S', H', γ', .agg out, .agg arr, ?_, hK, R', V_agg_iff.2 ⟨_, rfl, hv, hsc⟩⟩
      refine run_build w T _ arr ?_
      unfold Program.built
      rw [hti, hq]
      unfold placesA at hpl
      split at hpl
      · rename_i fields hu
        rw [Option.map_eq_some_iff] at hpl
        obtain ⟨ps, hps, rfl⟩ := hpl
        simp only [hu, htz, hps]
        rw [← hfill]
        congr 1
        funext i
        simp
      · rename_i n e hu
        rw [Option.map_eq_some_iff] at hpl
        obtain ⟨ie, hie, rfl⟩ := hpl
        simp only [hu, htz, hie]
        exact hfill
      · cases hpl
    · exact hK.elim
  · exact h.elim
end
end Go.Proofs.YtcmaledchnhccaaGreatDoor

/-! The abstract meaning of slices that are made: written out, by make, by append. No condition. -/
namespace Go.Proofs.YtcmaledchnhccaaGreatDoor
open Go Go.RowKit

theorem fold_get (off : Nat) (us arr : Array Value) (h : off + us.size ≤ arr.size) :
    (us.zipIdx.foldl (fun cs (x : Value × Nat) => cs.setIfInBounds (off + x.2) x.1) arr).size = arr.size ∧
    ∀ p, (us.zipIdx.foldl (fun cs (x : Value × Nat) => cs.setIfInBounds (off + x.2) x.1) arr)[p]? = if off ≤ p ∧ p < off + us.size then us[p - off]? else arr[p]? := by
  have hl := foldl_zip off us.toList 0 arr (by simp only [Array.length_toList]; omega)
  rw [← Array.foldl_toList, Array.toList_zipIdx]
  refine ⟨hl.1, fun p => ?_⟩
  rw [hl.2]
  simp only [Nat.add_zero, Array.length_toList, Array.getElem?_toList]

theorem fill_row {H : Imm} (size : Nat) : ∀ (ys : List AV) (us : List Value) (k : Nat) (arr : Array Value), (k + ys.length) * size ≤ arr.size → us.length = ys.length →
    (∀ (j : Nat) (y : AV) (u : Value), ys[j]? = some y → us[j]? = some u → V H y u ∧ y.flat = true ∧ (cellsV y).length = size) →
    ∃ arr', Instr.fill (fun i => some (i * size, size)) arr ((List.range' k ys.length).zip us) = some arr' ∧ arr'.size = arr.size ∧ (∀ p, p < k * size → arr'[p]? = arr[p]?) ∧
      ∀ (j : Nat) (y : AV) (t : Nat) (x : AV), ys[j]? = some y → (cellsV y)[t]? = some x → x.sc = true ∧ ∃ c, arr'[(k + j) * size + t]? = some c ∧ V H x c
  | [], us, k, arr, hsz, hn, hr => by
    obtain rfl : us = [] := List.eq_nil_of_length_eq_zero hn
    exact ⟨arr, rfl, rfl, fun _ _ => rfl, by simp⟩
  | y :: ys, [], k, arr, hsz, hn, hr => by simp at hn
  | y :: ys, u :: us, k, arr, hsz, hn, hr => by
    obtain ⟨hv, hf, hl⟩ := hr 0 y u rfl rfl
    obtain ⟨c1, c2⟩ := cells_ok hv hf
    have hk : k * size + size ≤ arr.size := by
      have : (k + (ys.length + 1)) * size = k * size + size + ys.length * size := by rw [Nat.add_mul, Nat.add_mul]; omega
      simp only [List.length_cons] at hsz
      omega
    obtain ⟨f1, f2⟩ := fold_get (k * size) u.cells arr (by rw [c1, hl]; exact hk)
    obtain ⟨arr', g1, g2, g3, g4⟩ := fill_row size ys us (k + 1) (u.cells.zipIdx.foldl (fun cs (x : Value × Nat) => cs.setIfInBounds (k * size + x.2) x.1) arr)
      (by rw [f1]; simp only [List.length_cons] at hsz; rw [show k + 1 + ys.length = k + (ys.length + 1) by omega]; exact hsz) (by simpa using hn) (fun j a b c d => hr (j + 1) a b (by simpa using c) (by simpa using d))
    refine ⟨arr', ?_, g2.trans f1, fun p hp => ?_, fun j y' t x hy hx => ?_⟩
    · simp only [List.length_cons, List.range'_succ, List.zip_cons_cons]
      unfold Instr.fill
      simp only
      rw [if_neg (by rw [c1, hl]; simp; omega)]
      exact g1
    · rw [g3 p (by rw [Nat.succ_mul]; omega), f2, if_neg (by omega)]
    · cases j with
      | zero =>
        simp at hy
        subst hy
        obtain ⟨hs, c, hc, hvx⟩ := c2 t x hx
        have ht : t < size := by rw [← hl]; exact getElem?_lt hx
        refine ⟨hs, c, ?_, hvx⟩
        rw [Nat.add_zero, g3 _ (by rw [Nat.succ_mul]; omega), f2, if_pos (by rw [c1, hl]; omega), ← hc]
        congr 1; simp
      | succ j =>
        simp at hy
        obtain ⟨hs, c, hc, hvx⟩ := g4 j y' t x hy hx
        exact ⟨hs, c, by rw [← hc]; congr 3; omega, hvx⟩

def aBuildSlice (P : Program) (S : Nat → AV) (T : TypeId) (len : Nat) (parts : List (Nat × Operand)) (K : (Nat → AV) → AV → Prop) : Prop :=
  match P.underlying T with
  | some (.slice e) => (zeroA P e).isSome = true ∧ len * P.cellsOf e ≤ 16777216 ∧ len ≤ 16777216 ∧ parts.map (·.1) = List.range len ∧
      pstL S (parts.map (·.2)) fun S' ys => (ys.all fun y => y.flat && decide ((cellsV y).length = P.cellsOf e)) = true ∧ K S' (.ow e (P.cellsOf e) (ys.map cellsV))
  | _ => False

section
variable {C : Ctx} {H : Imm} {γ : Nat → List Nat} {S : Nat → AV} {w w' : World} {P : Program}

theorem zero_some {e : TypeId} (h : (zeroA P e).isSome = true) : ∃ z : Value, ∃ i, P.info? e = some i ∧ i.zero = some z := by
  unfold zeroA at h
  split at h
  · rename_i z hz
    rw [Option.bind_eq_some_iff] at hz
    obtain ⟨i, hi, hz⟩ := hz
    exact ⟨z, i, hi, hz⟩
  · cases h
theorem run_zeroValue {e : TypeId} {i : TypeInfo} {z : Value} (hi : P.info? e = some i) (hz : i.zero = some z) (w : World) : (zeroValue e).run P w = .ok z w := by
  unfold zeroValue
  rw [run_bind_ok (run_typeInfo hi w)]
  simp only [hz]; rfl

theorem run_abuildSlice {a : Act} (R : Rel C H γ S a.tmps w) {T : TypeId} {len : Nat} {parts : Array (Nat × Operand)} {K : (Nat → AV) → AV → Prop} (h : aBuildSlice P S T len parts.toList K) :
    ∃ S' H' γ' e s es arr, (Instr.buildSlice T len (parts.map fun (i, x) => (i, a.eval x))).run P w = .ok (.slice (some ⟨w.heap.size, 0, none⟩) len len) (w.alloc (.cells arr e)) ∧ K S' (.ow e s es) ∧
      Rel C H' γ' S' a.tmps w ∧ es.length = len ∧ arr.size = len * s ∧ len ≤ 16777216 ∧ RowRel H' s es arr 0 := by
  unfold aBuildSlice at h
  split at h
  · rename_i e hT
    obtain ⟨hz, hsz, hll, hidx, h⟩ := h
    obtain ⟨z, i, hi, hiz⟩ := zero_some hz
    obtain ⟨S', H', γ', ys, hle, ⟨hall, hK⟩, R', hn, hr⟩ := pstL_ok R h
    have hlen : ys.length = len := by rw [hn, List.length_map]; have := congrArg List.length hidx; simpa using this
    have hpl : parts.toList.length = len := by have := congrArg List.length hidx; simpa using this
    let zc : Array Value := if len * P.cellsOf e = 0 then #[] else z.cells
    let arr0 : Array Value := (Array.range (len * P.cellsOf e)).map (zc[· % zc.size]!)
    have ha0 : arr0.size = len * P.cellsOf e := by simp [arr0]
    have hprops : ∀ (j : Nat) (y : AV), ys[j]? = some y → y.flat = true ∧ (cellsV y).length = P.cellsOf e := by
      intro j y hy
      rw [List.all_eq_true] at hall
      simpa using hall y (List.mem_of_getElem? hy)
    have hq : (parts.map fun (i, x) => (i, a.eval x)).toList = (List.range' 0 ys.length).zip (parts.toList.map fun x => a.eval x.2) := by
      rw [hlen, ← List.range_eq_range', ← hidx]
      simp only [Array.toList_map]
      generalize parts.toList = l
      induction l with
      | nil => rfl
      | cons p l ih => simp only [List.map_cons, List.zip_cons_cons, ← ih]
    obtain ⟨arr, g1, g2, g3, g4⟩ := fill_row (H := H') (P.cellsOf e) ys (parts.toList.map fun x => a.eval x.2) 0 arr0 (by rw [ha0, hlen]; simp) (by simp [hlen, hpl]) (by
      intro j y u hy hu
      rw [List.getElem?_map, Option.map_eq_some_iff] at hu
      obtain ⟨p, hp, rfl⟩ := hu
      obtain ⟨p1, p2⟩ := hprops j y hy
      exact ⟨hr j p.2 y (by rw [List.getElem?_map, hp]; rfl) hy, p1, p2⟩)
    refine ⟨S', H', γ', e, P.cellsOf e, ys.map cellsV, arr, ?_, hK, R', by simp [hlen], g2.trans ha0, hll, ?_, ?_⟩
    · unfold Instr.buildSlice
      rw [run_bind_ok (run_underlying hT w)]
      show ((sizeOf e >>= fun size => _) : Sem Value).run P w = _
      rw [run_bind_ok (run_sizeOf' hi w), if_neg (by omega)]
      have g1' : Instr.fill (fun i => some (i * P.cellsOf e, P.cellsOf e)) ((Array.range (len * P.cellsOf e)).map fun x => zc[x % zc.size]!) ((List.range' 0 ys.length).zip (parts.toList.map fun x => a.eval x.2)) = some arr := g1
      by_cases h0 : len * P.cellsOf e = 0
      · have hzc : zc = #[] := if_pos h0
        rw [hzc] at g1'
        rw [if_pos h0, run_bind_ok (run_pure _ w), hq]
        simp only [g1']
        rfl
      · have hzc : zc = z.cells := if_neg h0
        rw [hzc] at g1'
        rw [if_neg h0, run_bind_ok (run_zeroValue hi hiz w), run_bind_ok (run_pure _ w), hq]
        simp only [g1']
        rfl
    · intro e' he'
      rw [List.mem_map] at he'
      obtain ⟨y, hy, rfl⟩ := he'
      obtain ⟨j, hj, rfl⟩ := List.getElem_of_mem hy
      exact (hprops j _ (List.getElem?_eq_getElem hj)).2
    · intro j e' t x he' hx
      rw [List.getElem?_map, Option.map_eq_some_iff] at he'
      obtain ⟨y, hy, rfl⟩ := he'
      obtain ⟨hs, c, hc, hv⟩ := g4 j y t x hy hx
      exact ⟨hs, c, by rw [Nat.zero_add] at hc ⊢; exact hc, hv⟩
  · exact h.elim

/-! ### make -/
def aMake (P : Program) (T : TypeId) (l c : Int) (K : AV → Prop) : Prop :=
  match P.underlying T with
  | some (.slice e) => (match zeroA P e with
    | some zc => zc.all AV.sc = true ∧ zc.length = P.cellsOf e ∧ 0 ≤ l ∧ l ≤ c ∧ c * P.bytesOf e ≤ 140737488355328 ∧ c ≤ 140737488355328 ∧ K (.ow e (P.cellsOf e) (List.replicate l.toNat zc))
    | none => False)
  | _ => False
theorem wrap64_id {n : Int} (h0 : 0 ≤ n) (h1 : n ≤ 140737488355328) : IntKind.i64.wrap n = n := by rw [IntKind.wrap_i64]; omega
theorem run_amake {T : TypeId} {l c : Int} {K : AV → Prop} (H : Imm) (w : World) (h : aMake P T l c K) :
    ∃ e s es arr, (Instr.makeSlice T (.int .i64 l) (.int .i64 c)).run P w = .ok (.slice (some ⟨w.heap.size, 0, none⟩) es.length c.toNat) (w.alloc (.cells arr e)) ∧ K (.ow e s es) ∧
      es.length ≤ c.toNat ∧ arr.size = c.toNat * s ∧ c.toNat ≤ 140737488355328 ∧ RowRel H s es arr 0 := by
  unfold aMake at h
  split at h
  · rename_i e hT
    split at h
    · rename_i zc hz
      obtain ⟨hs, hzl, h0, hlc, hb, hc, hK⟩ := h
      obtain ⟨z, i, hi, hiz⟩ := zero_some (P := P) (e := e) (by rw [hz]; rfl)
      have hzz : zc = z.cells.toList.map ofConst := by
        unfold zeroA at hz
        rw [hi] at hz
        simp only [Option.bind_some, hiz] at hz
        cases hz; rfl
      have hzs : z.cells.size = P.cellsOf e := by rw [← hzl, hzz]; simp
      let n := c.toNat * P.cellsOf e
      let z0 : Array Value := if n = 0 then #[] else z.cells
      refine ⟨e, P.cellsOf e, List.replicate l.toNat zc, (Array.range n).map (z0[· % z0.size]!), ?_, hK, by simp; omega, by simp [n], by omega, ?_, ?_⟩
      · unfold Instr.makeSlice
        rw [run_bind_ok (run_underlying hT w)]
        show ((asInt (.int .i64 l) >>= fun len => asInt (.int .i64 c) >>= fun cap => _) : Sem Value).run P w = _
        rw [run_bind_ok (show (asInt (.int .i64 l)).run P w = .ok l w from rfl), run_bind_ok (show (asInt (.int .i64 c)).run P w = .ok c w from rfl), run_bind_ok (run_typeInfo hi w)]
        have hby := bytesOf_eq hi
        have hwl := wrap64_id h0 (by omega : l ≤ 140737488355328)
        have hwc := wrap64_id (by omega : 0 ≤ c) hc
        have hnb : ¬ ((i.bytes : Int) * c > 2 ^ 48) := by
          rw [← hby, Int.mul_comm]; omega
        have hask : (askRoom (c.toNat * i.bytes)).run P w = .ok () w := by
          unfold askRoom roomBytes
          split
          · rfl
          · rfl
        simp only [hwl, hwc]
        have hcond : (decide (c < 0) || decide ((i.bytes : Int) * c > 2 ^ 48) || decide (l < 0) || decide (l > c)) = false := by
          simp only [Bool.or_eq_false_iff, decide_eq_false_iff_not]
          omega
        rw [if_neg (by
          simp only [Bool.or_eq_true, decide_eq_true_eq]
          simp only [Bool.or_eq_false_iff, decide_eq_false_iff_not] at hcond
          omega)]
        rw [run_bind_ok hask, run_bind_ok (run_sizeOf' hi w)]
        by_cases hn0 : c.toNat * P.cellsOf e = 0
        · have hz0 : z0 = #[] := if_pos hn0
          rw [if_pos hn0, run_bind_ok (run_pure _ w), hz0]
          simp
          rfl
        · have hz0 : z0 = z.cells := if_neg hn0
          rw [if_neg hn0, run_bind_ok (run_zeroValue hi hiz w), run_bind_ok (run_pure _ w), hz0]
          simp
          rfl
      · intro e' he'
        rw [List.mem_replicate] at he'
        rw [he'.2]; exact hzl
      · intro j e' t x he' hx
        rw [List.getElem?_replicate] at he'
        split at he'
        · rename_i hj
          cases he'
          have ht : t < P.cellsOf e := by rw [← hzl]; exact getElem?_lt hx
          have hjn : j * P.cellsOf e + t < n := by
            have := Nat.mul_le_mul_right (P.cellsOf e) (show j + 1 ≤ c.toNat by omega)
            rw [Nat.succ_mul] at this
            simp only [n]; omega
          have hz0 : z0 = z.cells := if_neg (by omega)
          rw [List.all_eq_true] at hs
          have hxs := hs x (List.mem_of_getElem? hx)
          rw [hzz, List.getElem?_map, Option.map_eq_some_iff] at hx
          obtain ⟨cv, hcv, rfl⟩ := hx
          refine ⟨hxs, cv, ?_, ofConst_V hxs⟩
          rw [hz0]
          have hmod : (j * P.cellsOf e + t) % z.cells.size = t := by rw [hzs, Nat.add_comm, Nat.mul_comm, Nat.add_mul_mod_self_left, Nat.mod_eq_of_lt ht]
          rw [Nat.zero_add]
          simp [hjn, hmod]
          rw [Array.getElem?_toList] at hcv
          rw [getElem!_pos z.cells t (by rw [hzs]; exact ht)]
          rw [Array.getElem?_eq_getElem (by rw [hzs]; exact ht)] at hcv
          cases hcv; rfl
        · cases he'
    · exact h.elim
  · exact h.elim
end
end Go.Proofs.YtcmaledchnhccaaGreatDoor

/-! The abstract meaning of append. No condition. -/
namespace Go.Proofs.YtcmaledchnhccaaGreatDoor
open Go Go.RowKit

theorem RowRel.take {H : Imm} {s : Nat} {es : List (List AV)} {cur : Array Value} {off : Nat} (r : RowRel H s es cur off) :
    RowRel H s es ((cur.toList.drop off).take (es.length * s)).toArray 0 := by
  refine ⟨r.1, fun i e t x he hx => ?_⟩
  obtain ⟨h1, c, hc, hv⟩ := r.2 i e t x he hx
  refine ⟨h1, c, ?_, hv⟩
  have ht : t < s := by rw [← r.1 e (List.mem_of_getElem? he)]; exact getElem?_lt hx
  have hi := Nat.mul_le_mul_right s (getElem?_lt he)
  rw [Nat.succ_mul] at hi
  rw [List.getElem?_toArray, List.getElem?_take, if_pos (by omega), List.getElem?_drop, Array.getElem?_toList, ← hc]
  congr 1; omega
theorem RowRel.untake {H : Imm} {s : Nat} {es : List (List AV)} {cur : Array Value} {n : Nat} (r : RowRel H s es (cur.toList.take n).toArray 0) : RowRel H s es cur 0 := by
  refine ⟨r.1, fun i e t x he hx => ?_⟩
  obtain ⟨h1, c, hc, hv⟩ := r.2 i e t x he hx
  refine ⟨h1, c, ?_, hv⟩
  rw [List.getElem?_toArray, List.getElem?_take] at hc
  split at hc
  · rw [← hc, Array.getElem?_toList]
  · cases hc
theorem RowRel.append {H : Imm} {s : Nat} {es es' : List (List AV)} {xs ys : List Value} (r : RowRel H s es xs.toArray 0) (r' : RowRel H s es' ys.toArray 0) (hl : xs.length = es.length * s) :
    RowRel H s (es ++ es') (xs ++ ys).toArray 0 := by
  refine ⟨fun e he => ?_, fun i e t x he hx => ?_⟩
  · rcases List.mem_append.1 he with h | h
    · exact r.1 e h
    · exact r'.1 e h
  · rw [List.getElem?_append] at he
    split at he
    · rename_i hi
      obtain ⟨h1, c, hc, hv⟩ := r.2 i e t x he hx
      refine ⟨h1, c, ?_, hv⟩
      rw [List.getElem?_toArray] at hc ⊢
      rw [List.getElem?_append_left (getElem?_lt hc)]
      exact hc
    · rename_i hi
      obtain ⟨h1, c, hc, hv⟩ := r'.2 (i - es.length) e t x he hx
      refine ⟨h1, c, ?_, hv⟩
      rw [List.getElem?_toArray] at hc ⊢
      have h2 : i * s = es.length * s + (i - es.length) * s := by rw [← Nat.add_mul]; congr 1; omega
      rw [List.getElem?_append_right (by omega), ← hc]
      congr 1; omega

/-- what a slice holds -/
def srcE (S : Nat → AV) : AV → Option (Nat × List (List AV))
  | .sl s es => some (s, es)
  | .rf k => (match S k with
    | .ow _ s es => some (s, es)
    | _ => none)
  | .rs k a n => some ((S k).esz, ((S k).els.drop a).take n)
  | _ => none

section
variable {C : Ctx} {H : Imm} {γ : Nat → List Nat} {S : Nat → AV} {tmps : Array Value} {w w' : World} {P : Program}

/-- the cells of a slice -/
theorem src_ok (R : Rel C H γ S tmps w) {x : AV} {v : Value} {s : Nat} {es : List (List AV)} (hx : AOK H γ S tmps x v) (h : srcE S x = some (s, es)) :
    (v = .slice none 0 0 ∧ es = []) ∨ ∃ (a : Addr) (c : Nat) (news : List Value), v = .slice (some a) es.length c ∧ news.length = es.length * s ∧ (∀ (j : Nat) (u : Value), news[j]? = some u → w.cell? (a.add j) = some u) ∧ (∀ u ∈ news, u.oneCell' = true) ∧ RowRel H s es news.toArray 0 := by
  have main : ∀ (g off c : Nat) (s : Nat) (es : List (List AV)) (cur : Array Value) (T : TypeId) (fr : Nat × Nat), w.heap[g]? = some (.cells cur T fr) → (es ≠ [] → off + es.length * s ≤ cur.size) → RowRel H s es cur off → v = .slice (some ⟨g, off, none⟩) es.length c →
      ∃ (a : Addr) (c : Nat) (news : List Value), v = .slice (some a) es.length c ∧ news.length = es.length * s ∧ (∀ (j : Nat) (u : Value), news[j]? = some u → w.cell? (a.add j) = some u) ∧ (∀ u ∈ news, u.oneCell' = true) ∧ RowRel H s es news.toArray 0 := by
    intro g off c s es cur T fr hh hfit hr hv
    by_cases hes : es = []
    · subst hes
      exact ⟨_, c, [], hv, by simp, by simp, by simp, by simp, by simp⟩
    · have hf := hfit hes
      have hlen : ((cur.toList.drop off).take (es.length * s)).length = es.length * s := by simp; omega
      refine ⟨_, c, (cur.toList.drop off).take (es.length * s), hv, hlen, fun j u hu => ?_, fun u hu => ?_, hr.take⟩
      · rw [addr_add]
        rw [List.getElem?_take] at hu
        split at hu
        · rw [List.getElem?_drop, Array.getElem?_toList] at hu
          exact cell_at hh hu
        · cases hu
      · obtain ⟨p, hp, rfl⟩ := List.getElem_of_mem hu
        rw [hlen] at hp
        have hs0 : 0 < s := Nat.pos_of_ne_zero (by rintro rfl; simp at hp)
        have hi : p / s < es.length := Nat.div_lt_of_lt_mul (by rw [Nat.mul_comm]; exact hp)
        have ht : p % s < s := Nat.mod_lt _ hs0
        have hel := hr.1 _ (List.getElem_mem hi)
        obtain ⟨h1, cc, hc, hvv⟩ := hr.take.2 (p / s) _ (p % s) _ (List.getElem?_eq_getElem hi) (List.getElem?_eq_getElem (by rw [hel]; exact ht))
        rw [List.getElem?_toArray, Nat.zero_add, show p / s * s + p % s = p from by rw [Nat.mul_comm]; exact Nat.div_add_mod p s, List.getElem?_eq_getElem (by rw [hlen]; exact hp)] at hc
        cases hc
        exact hvv.one h1
  unfold srcE at h
  split at h
  · cases h
    rcases V_sl_iff.1 hx with ⟨rfl, rfl⟩ | ⟨g, off, cap, cur, T', fr, rfl, hH, hc, hfit, hr⟩
    · exact .inl ⟨rfl, rfl⟩
    · exact .inr (main g off cap _ _ cur T' fr (R.imm _ _ hH) hfit hr rfl)
  · rename_i k
    split at h
    · rename_i e s' es' hS
      cases h
      obtain ⟨v', hv', hh⟩ := R.owner_val hx.1
      rw [hx.2] at hv'; cases hv'
      rw [hS] at hh
      rcases hh with ⟨rfl, rfl, _⟩ | ⟨g, cap, cur, hb, rfl, hh, h1, h2, h3, hr⟩
      · exact .inl ⟨rfl, rfl⟩
      · exact .inr (main g 0 cap _ _ cur _ _ hh (fun _ => by rw [h3, Nat.zero_add]; exact Nat.mul_le_mul_right _ h1) hr rfl)
    · cases h
  · rename_i k a n
    cases h
    obtain ⟨e, s', es', hS, hl, hr⟩ := hx
    rw [hS]
    simp only [AV.els, AV.esz]
    have hlen : ((es'.drop a).take n).length = n := by simp; omega
    rcases hr with ⟨_, rfl, rfl⟩ | ⟨g, off, cap, hb, hc, rfl, hoff⟩
    · exact .inl ⟨rfl, by simp⟩
    · obtain ⟨e0, cur, hh, hfit, hr0⟩ := R.own_row hb (by rw [hS]; rfl)
      rw [hS] at hfit hr0
      simp only [AV.els, AV.esz] at hfit hr0
      refine .inr (main g off cap s' ((es'.drop a).take n) cur _ _ hh (fun hne => ?_) ?_ (by rw [hlen]))
      · rw [hlen]
        have : n ≠ 0 := by rintro rfl; simp at hne
        rw [hoff this, ← Nat.add_mul]
        exact Nat.le_trans (Nat.mul_le_mul_right _ (by omega)) hfit
      · by_cases hn : n = 0
        · subst hn; simp only [List.take_zero]; exact ⟨by simp, by simp⟩
        · rw [hoff hn]; have := hr0.sub a n; simpa using this
  · cases h

def isNilS : Operand → Bool
  | .const (.slice none 0 0) => true
  | _ => false
def aAppend (P : Program) (S : Nat → AV) (T : TypeId) (b : Operand) (x : AV) (K : Option Nat → AV → Prop) : Prop :=
  match P.underlying T, srcE S x with
  | some (.slice e), some (s', es') => P.cellsOf e ≠ 0 ∧ (match zeroA P e with
    | some zc => zc.length = P.cellsOf e
    | none => False) ∧ (s' = P.cellsOf e ∨ es' = []) ∧
    (if isNilS b then es'.length * P.bytesOf e ≤ 140737488355328 ∧ es'.length ≤ 140737488355328 ∧ K none (.ow e (P.cellsOf e) es')
    else match evA S b with
    | .rf k => (match S k with
      | .ow e' s es => e' = e ∧ s = P.cellsOf e ∧ (es.length + es'.length) * P.bytesOf e ≤ 140737488355328 ∧ es.length + es'.length ≤ 140737488355328 ∧ K (some k) (.ow e s (es ++ es'))
      | _ => False)
    | _ => False)
  | _, _ => False

theorem ownsRow_of {e s : Nat} {es : List (List AV)} {bs : List Nat} {v : Value} (h : OwnS H w bs e s es v) : ∃ xs, w.ownsRow 0 e s v es.length xs ∧ RowRel H s es xs.toArray 0 ∧ xs.length = es.length * s ∧ (v.ownBlock = none → bs = []) ∧ ∀ g, v.ownBlock = some g → bs = [g] := by
  rcases h with ⟨rfl, rfl, rfl⟩ | ⟨g, cap, cur, rfl, rfl, hh, h1, h2, h3, hr⟩
  · exact ⟨[], World.ownsRow_nil w 0 e s, by exact ⟨by simp, by simp⟩, by simp, fun _ => rfl, fun g hg => by cases hg⟩
  · have hfit : es.length * s ≤ cur.size := by rw [h3]; exact Nat.mul_le_mul_right _ h1
    have hlen : (cur.toList.take (es.length * s)).length = es.length * s := by simp; omega
    refine ⟨cur.toList.take (es.length * s), ⟨hlen, .inr ⟨g, cap, cur, rfl, Nat.zero_le _, hh, h1, h2, h3, rfl⟩⟩, ?_, hlen, (fun h => by cases h), fun g' hg => by cases hg; rfl⟩
    have := hr.take (off := 0)
    simpa using this
theorem ownS_of {e s : Nat} {es : List (List AV)} {v : Value} {xs : List Value} (h : w.ownsRow 0 e s v es.length xs) (hr : RowRel H s es xs.toArray 0) :
    ∃ bs, OwnS H w bs e s es v ∧ (bs = [] ∧ v.ownBlock = none ∨ ∃ g, bs = [g] ∧ v.ownBlock = some g) := by
  obtain ⟨h1, h2⟩ := h
  rcases h2 with ⟨rfl, hn⟩ | ⟨g, cap, cur, rfl, _, hh, h3, h4, h5, h6⟩
  · exact ⟨[], .inl ⟨List.eq_nil_of_length_eq_zero hn, rfl, rfl⟩, .inl ⟨rfl, rfl⟩⟩
  · refine ⟨[g], .inr ⟨g, cap, cur, rfl, rfl, hh, h3, h4, h5, ?_⟩, .inr ⟨g, rfl, rfl⟩⟩
    subst h6
    exact hr.untake

theorem run_append_nilsrc (T ty e : TypeId) (i : TypeInfo) (hT : P.underlying T = some (.slice e)) (hi : P.info? e = some i) (v : Value) (hv : ∃ A n c, v = .slice A n c ∧ n ≤ c) (w : World) :
    (Builtin.append_ #[T, T] ty #[v, .slice none 0 0]).run P w = .ok v w := by
  obtain ⟨A, n, c, rfl, hc⟩ := hv
  cases A with
  | none => simp [Builtin.append_, run_underlying hT, sizeOf, typeInfo, hi, Builtin.lenOf, Builtin.firstCells, hc]
  | some a => simp [Builtin.append_, run_underlying hT, sizeOf, typeInfo, hi, Builtin.lenOf, Builtin.firstCells, hc, storeCells]

/-- append's run: the new row, and what of the world has turned -/
theorem run_aappend (R : Rel C H γ S tmps w) {T ty e : TypeId} {x : AV} {v u : Value} {bs : List Nat} {es es' : List (List AV)} {zc : List AV} (hT : P.underlying T = some (.slice e)) (hn0 : P.cellsOf e ≠ 0) (hz : zeroA P e = some zc) (hzl : zc.length = P.cellsOf e)
    (hx : AOK H γ S tmps x u) (hsrc : ∃ s', srcE S x = some (s', es') ∧ (s' = P.cellsOf e ∨ es' = [])) (hown : OwnS H w bs e (P.cellsOf e) es v)
    (hb : (es.length + es'.length) * P.bytesOf e ≤ 140737488355328) (hb2 : es.length + es'.length ≤ 140737488355328) :
    ∃ v' w' bs', (Builtin.append_ #[T, T] ty #[v, u]).run P w = .ok v' w' ∧ OwnS H w' bs' e (P.cellsOf e) (es ++ es') v' ∧ w.grownBy w' v.ownBlock ∧ (∀ g, g ∈ bs' → g ∈ bs ∨ w.heap.size ≤ g) ∧ ∀ g, g ∈ bs' → g < w'.heap.size := by
  obtain ⟨s', hs', hse⟩ := hsrc
  obtain ⟨z, i, hi, hiz⟩ := zero_some (P := P) (e := e) (by rw [hz]; rfl)
  have hzz : zc = z.cells.toList.map ofConst := by
    unfold zeroA at hz
    rw [hi] at hz
    simp only [Option.bind_some, hiz] at hz
    cases hz; rfl
  have hzs : z.cells.size = P.cellsOf e := by rw [← hzl, hzz]; simp
  obtain ⟨xs, ho, hrx, hxl, hbn, hbs⟩ := ownsRow_of hown
  rcases src_ok R hx hs' with ⟨rfl, rfl⟩ | ⟨a, c, news, rfl, hnl, hcell, hone, hrn⟩
  · refine ⟨v, w, bs, run_append_nilsrc T ty e i hT hi v ?_ w, by simpa using hown, ⟨rfl, rfl, rfl, Nat.le_refl _, fun _ _ _ => rfl⟩, fun g hg => .inl hg, fun g hg => ?_⟩
    · rcases hown with ⟨_, rfl, _⟩ | ⟨g, cap, cur, _, rfl, _, h1, _⟩
      · exact ⟨_, _, _, rfl, Nat.le_refl _⟩
      · exact ⟨_, _, _, rfl, h1⟩
    · rcases hown with ⟨_, _, rfl⟩ | ⟨g', cap, cur, rfl, _, hh, _⟩
      · cases hg
      · simp at hg; subst hg; exact (Array.getElem?_eq_some_iff.1 hh).1
  · have hnl' : news.length = es'.length * P.cellsOf e := by
      rcases hse with rfl | rfl
      · exact hnl
      · simp at hnl; simp [hnl]
    have hrn' : RowRel H (P.cellsOf e) es' news.toArray 0 := by
      rcases hse with rfl | rfl
      · exact hrn
      · exact ⟨by simp, by simp⟩
    have hmx : es.length + es'.length ≤ maxLen := by simp only [maxLen]; omega
    obtain ⟨v', w', hrun, hown', hgr, hnil⟩ := run_append_own w 0 T ty e i z (P.cellsOf e) i.bytes hT hi hiz (cellsOf_eq hi).symm rfl hzs (Nat.pos_of_ne_zero hn0) v es.length xs ho a es'.length c news hnl' hcell hone hmx
      (by rw [← bytesOf_eq hi]; exact hb) (Nat.zero_le _)
    rw [← List.length_append] at hown'
    obtain ⟨bs', hO, hbb⟩ := ownS_of hown' (hrx.append hrn' hxl)
    have hfresh : ∀ g, v'.ownBlock = some g → v.ownBlock = some g ∨ w.heap.size ≤ g := by
      intro g hg
      rcases hown with ⟨rfl, rfl, _⟩ | ⟨g0, cap, cur, _, rfl, hh0, h1, h2, h3, _⟩
      · by_cases hm : es'.length = 0
        · rw [hnil.2 ⟨rfl, hm⟩] at hg; cases hg
        · have hr := run_append_nil (P := P) w T ty e i z hT hi hiz a es'.length c news (by rw [hnl', cellsOf_eq hi]) hcell (by omega) (by omega) (by
            rw [bytesOf_eq hi] at hb
            have : ([] : List (List AV)).length + es'.length = es'.length := by simp
            rw [this] at hb; omega)
          rw [hrun] at hr
          cases hr
          simp only [Value.ownBlock, Option.some.injEq] at hg
          exact .inr (by omega)
      · by_cases hroom : es.length + es'.length ≤ cap
        · have hfit : es.length * i.size + news.length ≤ cur.size := by rw [hnl', h3, cellsOf_eq hi, ← Nat.add_mul]; exact Nat.mul_le_mul_right _ hroom
          have hr := run_append_room (P := P) w T ty e i hT hi g0 es.length cap cur hh0 a es'.length c news (by rw [hnl', cellsOf_eq hi]) hcell hone hroom hfit
          rw [hrun] at hr
          cases hr
          exact .inl hg
        · have hr := run_append_grow (P := P) w T ty e i z hT hi hiz ⟨g0, 0, none⟩ es.length cap xs (by rw [hxl, cellsOf_eq hi]) (ho.cells (g := g0) rfl) a es'.length c news (by rw [hnl', cellsOf_eq hi]) hcell (by omega) (by omega) (growslice_fits (by omega) (by rw [← bytesOf_eq hi]; exact hb))
          rw [hrun] at hr
          cases hr
          simp only [Value.ownBlock, Option.some.injEq] at hg
          exact .inr (by omega)
    refine ⟨v', w', bs', hrun, hO, hgr, ?_, ?_⟩
    · intro g hg
      rcases hbb with ⟨rfl, _⟩ | ⟨g', rfl, hg'⟩
      · cases hg
      · simp at hg; subst hg
        rcases hfresh g hg' with h | h
        · exact .inl (by rw [hbs g h]; simp)
        · exact .inr h
    · intro g hg
      rcases hO with ⟨_, _, rfl⟩ | ⟨g', cap, cur, rfl, _, hh, _⟩
      · cases hg
      · simp at hg; subst hg; exact (Array.getElem?_eq_some_iff.1 hh).1
end
end Go.Proofs.YtcmaledchnhccaaGreatDoor

/-! Contracts of functions over abstract values, and what a call does to a frame. No condition. -/
namespace Go.Proofs.YtcmaledchnhccaaGreatDoor
open Go Go.RowKit

/-- What is so behind a call: r is handed back, 'outs' is what was lent. -/
structure Ret (n : Nat) (H : Imm) (w : World) (vs : Array Value) (γa : Nat → List Nat) (w' : World) (v : Value) (r : AV) (outs : List AV) (H' : Imm) (γr : List Nat) (γo : Nat → List Nat) : Prop where
  le : H.le H'
  imm : ∀ g o, H' g = some o → w'.heap[g]? = some o
  fr : Fr w ((List.range n).flatMap γa) w'
  res : Held H' w' γr r v
  rref : r.isRef = false
  rno : r.owner = false → γr = []
  out : ∀ (i : Nat) (u : Value), vs[i]? = some u → Held H' w' (γo i) (outs.getD i .junk) u ∧ (outs.getD i .junk).isRef = false ∧ ((outs.getD i .junk).owner = false → γo i = [])
  rown : ∀ g, g ∈ γr → H' g = none ∧ g < w'.heap.size ∧ (w.heap.size ≤ g ∨ ∃ i, g ∈ γa i)
  oown : ∀ i g, g ∈ γo i → H' g = none ∧ g < w'.heap.size ∧ (w.heap.size ≤ g ∨ ∃ i, g ∈ γa i)
  rdis : ∀ i g, g ∈ γo i → g ∉ γr
  odis : ∀ i j g, g ∈ γo i → g ∈ γo j → i = j
  new : ∀ g o, H' g = some o → H g = some o ∨ w.heap.size ≤ g ∨ ∃ i, g ∈ γa i

/-- A function's contract: called with values that stand for 'args' it returns one that stands for some r; what was lent holds 'outs'. -/
def AC (P : Program) (f : FuncId) (args : List AV) (R : AV → List AV → Prop) : Prop :=
  Enters P f ∧ ∀ (H : Imm) (w : World) (vs : Array Value) (γa : Nat → List Nat), vs.size = args.length →
    (∀ (i : Nat) (x : AV) (v : Value), args[i]? = some x → vs[i]? = some v → Held H w (γa i) x v ∧ (x.owner = false → γa i = [])) →
    (∀ i, args.length ≤ i → γa i = []) → (∀ g o, H g = some o → w.heap[g]? = some o) → (∀ i g, g ∈ γa i → H g = none ∧ g < w.heap.size) → (∀ i j g, g ∈ γa i → g ∈ γa j → i = j) →
    Calls P f vs w fun e w' => ∃ v r outs H' γr γo, e = .returned v ∧ R r outs ∧ Ret args.length H w vs γa w' v r outs H' γr γo

theorem flatMap_nil' (n : Nat) : (List.range n).flatMap (fun _ => ([] : List Nat)) = [] := by rw [List.flatMap_eq_nil_iff]; intros; rfl

theorem AC.mono {P : Program} {f : FuncId} {args : List AV} {R R' : AV → List AV → Prop} (h : AC P f args R) (hr : ∀ r o, R r o → R' r o) : AC P f args R' :=
  ⟨h.1, fun H w vs γa h1 h2 h3 h4 h5 h6 => (h.2 H w vs γa h1 h2 h3 h4 h5 h6).mono fun _ _ ⟨v, r, outs, H', γr, γo, a, b, c⟩ => ⟨v, r, outs, H', γr, γo, a, hr _ _ b, c⟩⟩

/-- what hangs on no memory -/
def AV.closed : AV → Bool
  | .int .. | .bool _ | .str _ | .nilp => true
  | .tup vs => vs.all fun x => match x with
    | .int .. | .bool _ | .str _ | .nilp => true
    | _ => false
  | _ => false
theorem V.closed {H H' : Imm} {x : AV} {v : Value} (h : V H x v) (hc : x.closed = true) : V H' x v := by
  have base : ∀ (y : AV) (u : Value), V H y u → (match y with
    | .int .. | .bool _ | .str _ | .nilp => true
    | _ => false) = true → V H' y u := by
    intro y u hy hyc
    cases hy <;> first
      | exact .int _ _
      | exact .bool _
      | exact .str _
      | exact .nilp
      | cases hyc
  cases x <;> first
    | exact base _ _ h rfl
    | cases hc
    | skip
  rename_i vs
  obtain ⟨arr, rfl, hn, hr⟩ := V_tup_iff.1 h
  refine V_tup_iff.2 ⟨arr, rfl, hn, fun j x hx => ?_⟩
  obtain ⟨c, hc', hv⟩ := hr j x hx
  simp only [AV.closed, List.all_eq_true] at hc
  exact ⟨c, hc', base _ _ hv (hc x (List.mem_of_getElem? hx))⟩

section
variable {C : Ctx} {H H' : Imm} {γ : Nat → List Nat} {S : Nat → AV} {tmps : Array Value} {w w' : World} {P : Program}

theorem Fr.below (h : Fr w [] w') : Below w.heap.size w w' := ⟨h.os, h.tape, h.output, h.size, fun g hg => h.blk g hg (by simp)⟩

/-- a slot whose value is known again -/
theorem Rel.regain (R : Rel C H γ S tmps w) {k : Nat} {y : AV} {v : Value} {bs : List Nat} (hv : tmps[k]? = some v) (hj : S k = .junk) (hr : y.isRef = false) (hh : Held H w bs y v) (hno : y.owner = false → bs = [])
    (hown : ∀ g, g ∈ bs → H g = none ∧ g < w.heap.size ∧ (C.w0.heap.size ≤ g ∨ g ∈ C.E)) (hdis : ∀ i g, g ∈ γ i → g ∉ bs) : Rel C H (updN γ k bs) (upd S k y) tmps w where
  slot := by
    intro i u hu
    by_cases hi : i = k
    · subst hi
      rw [hv] at hu; cases hu
      rw [SOK_of_held (by rw [upd_self]; exact hr), upd_self]
      simpa [updN] using hh
    · have h0 := R.slot i u hu
      refine h0.keep (upd_other hi _) (by simp [updN, hi]) (Imm.le_refl _) (fun _ _ => rfl) (fun j hj' => ?_)
      have ho := h0.owner_of_ref R hj'
      have hjk : j ≠ k := by rintro rfl; rw [hj] at ho; cases ho
      exact ⟨by rw [upd_other hjk]; exact ShapeEq.refl _, by simp [updN, hjk], rfl⟩
  out := by
    intro i hi
    have : i ≠ k := by rintro rfl; rw [Array.getElem?_eq_none hi] at hv; cases hv
    rw [upd_other this]; exact R.out i hi
  imm := R.imm
  nown := by
    intro i hi
    by_cases h : i = k
    · subst h; rw [upd_self] at hi; simp [updN, hno hi]
    · rw [upd_other h] at hi; simp [updN, h, R.nown i hi]
  own := by
    intro i g hg
    by_cases h : i = k
    · simp only [updN, h, if_true] at hg; exact hown g hg
    · simp only [updN, h, if_false] at hg; exact R.own i g hg
  disj := by
    intro i j g hi hj'
    by_cases h : i = k <;> by_cases h' : j = k
    · omega
    · simp only [updN, h, h', if_true, if_false] at hi hj'; exact absurd hi (hdis j g hj')
    · simp only [updN, h, h', if_true, if_false] at hi hj'; exact absurd hj' (hdis i g hi)
    · simp only [updN, h, h', if_false] at hi hj'; exact R.disj i j g hi hj'
  le0 := R.le0
  new := R.new
  fr := R.fr
  kept := R.kept
  sz := R.sz

/-- An operation that calls. -/
theorem op_call {o : Oper} {a : Act} {K : (Nat → AV) → Prop} {Q : Exit → Act → World → Prop} {f : FuncId} {vs : Array Value}
    (hrun : (execOp a.eval o).run P w = .ok (.enter f vs) w) (h : Calls P f vs w fun e w' => ∃ v, e = .returned v ∧ Post C K (a.put o.dst v) w') : o.wp P a w (Post C K) Q := by
  unfold Oper.wp
  rw [hrun, Oper.upon_enter]
  refine h.mono fun e w' ⟨v, he, hp⟩ => ?_
  subst he
  exact hp

/-- how what is handed back goes into its slot -/
def resK (o : Oper) (S : Nat → AV) (K : (Nat → AV) → Prop) (r : AV) : Prop :=
  match o.dst with
  | some d => K (put S d r)
  | none => K S
theorem res_ok {o : Oper} {a : Act} {K : (Nat → AV) → Prop} {r : AV} {v : Value} {bs : List Nat} (hdf : a.defers = []) (hgo : Good C o) (R : Rel C H γ S a.tmps w) (hh : Held H w bs r v) (hr : r.isRef = false) (hno : r.owner = false → bs = [])
    (hown : ∀ g, g ∈ bs → H g = none ∧ g < w.heap.size ∧ (C.w0.heap.size ≤ g ∨ g ∈ C.E)) (hdis : ∀ i g, g ∈ γ i → g ∉ bs) (hK : resK o S K r) : Post C K (a.put o.dst v) w := by
  unfold resK at hK
  unfold Act.put
  cases hd : o.dst with
  | none => rw [hd] at hK; exact ⟨hdf, S, H, γ, hK, R⟩
  | some d =>
    rw [hd] at hK
    obtain ⟨h1, h2⟩ := hgo d hd
    exact ⟨hdf, _, H, _, hK, R.put_gen (by rw [R.sz]; exact h1) h2 ((SOK_of_held (by rw [put_self]; exact hr)).2 (by rw [put_self]; simpa [updN] using hh)) hno hown (fun i g _ hg => hdis i g hg)⟩

/-! ### A: what is owned is lent to be read; what comes back hangs on no memory -/
def brw (S : Nat → AV) (x : AV) : AV :=
  match x with
  | .rf k => frz (S k)
  | .rp k i o => .ip (S k).esz (S k).els i o
  | .rs k a n => .sl (S k).esz (((S k).els.drop a).take n)
  | x => x
def brwOK (S : Nat → AV) (x : AV) : Bool :=
  match x with
  | .rf k | .rp k _ _ | .rs k _ _ => (S k).plain
  | .junk | .ow .. | .bx .. | .op _ => false
  | _ => true
def lent (γ : Nat → List Nat) : AV → List Nat
  | .rf k | .rp k _ _ | .rs k _ _ => γ k
  | _ => []
theorem brw_ok (R : Rel C H γ S tmps w) {x : AV} {v : Value} {bs : List Nat} (hx : AOK H γ S tmps x v) (hb : brwOK S x = true) (hbs : ∀ g, g ∈ lent γ x → g ∈ bs) (hno : ∀ g, g ∈ bs → H g = none) :
    V (addImm H w bs) (brw S x) v := by
  have hle := addImm_le (w := w) hno
  have hin : ∀ g, g ∈ bs → addImm H w bs g = w.heap[g]? := fun g hg => by simp [addImm, hg]
  unfold brwOK at hb
  split at hb
  · rename_i k
    obtain ⟨v', hv', hh⟩ := R.owner_val (plain_owner hb)
    rw [hx.2] at hv'; cases hv'
    exact V_of_own hb hh hle fun g hg => hin g (hbs g hg)
  · rename_i k i o
    obtain ⟨g, hg, rfl⟩ := hx
    obtain ⟨e, cur, hh, hfit, hr⟩ := R.own_row hg hb
    exact V_ip_iff.2 ⟨g, 0, cur, e, (0, 0), by simp, (hin g (hbs g (by simp [lent, hg]))).trans hh, by omega, hr.mono hle⟩
  · rename_i k a n
    obtain ⟨e, s, es, he, hl, hr⟩ := hx
    obtain ⟨v', hv', hh⟩ := R.owner_val (plain_owner hb)
    rw [he] at hh
    simp only [brw, he, AV.esz, AV.els]
    exact V_of_rs hh hl hr hle fun g hg => hin g (hbs g hg)
  · cases hb
  · cases hb
  · cases hb
  · cases hb
  · have hp : x.pers = true := by cases x <;> first | rfl | simp_all
    have : brw S x = x := by cases x <;> first | rfl | simp_all
    rw [this]
    exact (hx.pers hp).mono hle

theorem callA {o : Oper} {a : Act} {K : (Nat → AV) → Prop} {Q : Exit → Act → World → Prop} {f : FuncId} {xs : List AV} {vs : Array Value} {Rr : AV → List AV → Prop} (hdf : a.defers = []) (hgo : Good C o)
    (hrun : Enters P f → (execOp a.eval o).run P w = .ok (.enter f vs) w) (R : Rel C H γ S a.tmps w) (hn : vs.size = xs.length) (hx : ∀ (i : Nat) (x : AV) (v : Value), xs[i]? = some x → vs[i]? = some v → AOK H γ S a.tmps x v)
    (hb : xs.all (brwOK S) = true) (hc : AC P f (xs.map (brw S)) Rr) (hK : ∀ r outs, Rr r outs → r.closed = true ∧ resK o S K r) : o.wp P a w (Post C K) Q := by
  rw [List.all_eq_true] at hb
  have hno : ∀ g, g ∈ xs.flatMap (lent γ) → H g = none := by
    intro g hg
    rw [List.mem_flatMap] at hg
    obtain ⟨x, _, hg⟩ := hg
    cases x <;> simp only [lent] at hg <;> first | exact (R.own _ g hg).1 | cases hg
  refine op_call (hrun hc.1) ((hc.2 (addImm H w (xs.flatMap (lent γ))) w vs (fun _ => []) (by simp [hn]) ?_ (by simp) ?_ (by simp) (by simp)).mono ?_)
  · intro i x v hxi hvi
    rw [List.getElem?_map, Option.map_eq_some_iff] at hxi
    obtain ⟨x0, hx0, rfl⟩ := hxi
    exact ⟨Held.of_V (brw_ok R (hx i x0 v hx0 hvi) (hb x0 (List.mem_of_getElem? hx0)) (fun g hg => List.mem_flatMap.2 ⟨x0, List.mem_of_getElem? hx0, hg⟩) hno), fun _ => rfl⟩
  · intro g o hg
    unfold addImm at hg
    split at hg
    · exact hg
    · exact R.imm g o hg
  · rintro e w' ⟨v, r, outs, H', γr, γo, rfl, hR, hret⟩
    have hfr := hret.fr
    have hh := hret.res
    have hrr := hret.rref
    obtain ⟨hcl, hres⟩ := hK r outs hR
    refine ⟨v, rfl, ?_⟩
    have hfr' : Fr w [] w' := by rw [flatMap_nil'] at hfr; exact hfr
    have hV : V H r v := by
      have hp : r.pers = true := by cases r <;> first | rfl | cases hcl
      exact (hh.to_V hp).closed hcl
    exact res_ok (bs := []) hdf hgo (R.world hfr'.below) (Held.of_V hV) hrr (fun _ => rfl) (by simp) (by simp) hres

/-! ### C: what is handed on is handed on for good -/
theorem callC {o : Oper} {a : Act} {K : (Nat → AV) → Prop} {Q : Exit → Act → World → Prop} {f : FuncId} {xs : List AV} {vs : Array Value} {Rr : AV → List AV → Prop} (hdf : a.defers = []) (hgo : Good C o)
    (hrun : Enters P f → (execOp a.eval o).run P w = .ok (.enter f vs) w) (R : Rel C H γ S a.tmps w) (hn : vs.size = xs.length) (hx : ∀ (i : Nat) (x : AV) (v : Value), xs[i]? = some x → vs[i]? = some v → V H x v)
    (hc : AC P f xs Rr) (hK : ∀ r outs, Rr r outs → resK o S K r) : o.wp P a w (Post C K) Q := by
  refine op_call (hrun hc.1) ((hc.2 H w vs (fun _ => []) hn ?_ (by simp) R.imm (by simp) (by simp)).mono ?_)
  · intro i x v hxi hvi
    exact ⟨Held.of_V (hx i x v hxi hvi), fun _ => rfl⟩
  · rintro e w' ⟨v, r, outs, H', γr, γo, rfl, hR, hret⟩
    obtain ⟨hle, himm, hfr, hh, hrr, hno', _, hgr, _, _, _, hnew⟩ := hret
    refine ⟨v, rfl, ?_⟩
    have hfr' : Fr w [] w' := by rw [flatMap_nil'] at hfr; exact hfr
    have hnew' : ∀ g o, H' g = some o → H g = some o ∨ w.heap.size ≤ g := fun g o hg => by
      rcases hnew g o hg with h | h | ⟨i, h⟩
      · exact .inl h
      · exact .inr h
      · cases h
    have R' : Rel C H' γ S a.tmps w' := (R.world hfr'.below).imm_more hle himm (fun i g hg => by
      obtain ⟨h1, h2, _⟩ := R.own i g hg
      cases hg' : H' g with
      | none => rfl
      | some o =>
        rcases hnew' g o hg' with h | h
        · rw [h1] at h; cases h
        · omega) (fun g o hg => (hnew' g o hg).elim .inl fun h => .inr (.inl (Nat.le_trans R.fr.size h)))
    refine res_ok (bs := γr) hdf hgo R' hh hrr hno' (fun g hg => ?_) (fun i g hg hgr' => ?_) (hK r outs hR)
    · obtain ⟨h1, h2, h3⟩ := hgr g hg
      refine ⟨h1, h2, .inl ?_⟩
      rcases h3 with h | ⟨i, h⟩
      · exact Nat.le_trans R.fr.size h
      · cases h
    · have := (R.own i g hg).2.1
      rcases (hgr g hgr').2.2 with h | ⟨i, h⟩
      · omega
      · cases h
end
end Go.Proofs.YtcmaledchnhccaaGreatDoor

/-! A call that is lent what this frame owns. No condition. -/
namespace Go.Proofs.YtcmaledchnhccaaGreatDoor
open Go Go.RowKit

section
variable {C : Ctx} {H H' : Imm} {γ : Nat → List Nat} {S : Nat → AV} {tmps : Array Value} {w w' : World} {P : Program}

theorem upd_put (S : Nat → AV) (k : Nat) (x y : AV) : upd (put S k x) k y = put S k y := by
  funext i
  by_cases h : i = k
  · subst h; rw [upd_self, put_self]
  · rw [upd_other h, put_other h, put_other h]

theorem callB {o : Oper} {a : Act} {K : (Nat → AV) → Prop} {Q : Exit → Act → World → Prop} {f : FuncId} {xs : List AV} {vs : Array Value} {Rr : AV → List AV → Prop} {p k : Nat} {v0 : Value} (hdf : a.defers = []) (hgo : Good C o)
    (hrun : Enters P f → (execOp a.eval o).run P w = .ok (.enter f vs) w) (R : Rel C H γ S a.tmps w) (hn : vs.size = xs.length) (hxp : xs[p]? = some (S k)) (ho : (S k).owner = true) (hv0 : vs[p]? = some v0) (hk0 : a.tmps[k]? = some v0)
    (hx : ∀ (i : Nat) (x : AV) (v : Value), i ≠ p → xs[i]? = some x → vs[i]? = some v → V H x v)
    (hc : AC P f xs Rr) (hK : ∀ r outs, Rr r outs → resK o (put S k (outs.getD p .junk)) K r) : o.wp P a w (Post C K) Q := by
  let γa : Nat → List Nat := fun i => if i = p then γ k else []
  have hga : ∀ i g, g ∈ γa i → i = p ∧ g ∈ γ k := by
    intro i g hg
    simp only [γa] at hg
    split at hg
    · exact ⟨by assumption, hg⟩
    · cases hg
  have hpl : p < xs.length := getElem?_lt hxp
  have hheld : Held H w (γ k) (S k) v0 := by
    obtain ⟨v', hv', hh⟩ := R.owner_val ho
    rw [hk0] at hv'; cases hv'
    exact hh
  refine op_call (hrun hc.1) ((hc.2 H w vs γa hn ?_ ?_ R.imm ?_ ?_).mono ?_)
  · intro i x v hxi hvi
    by_cases hip : i = p
    · subst hip
      rw [hxp] at hxi; cases hxi
      rw [hv0] at hvi; cases hvi
      simp only [γa, if_true]
      exact ⟨hheld, fun h => by rw [ho] at h; cases h⟩
    · simp only [γa, hip, if_false]
      exact ⟨Held.of_V (hx i x v hip hxi hvi), fun _ => trivial⟩
  · intro i hi
    have : i ≠ p := by omega
    simp only [γa, this, if_false]
  · intro i g hg
    obtain ⟨_, hg⟩ := hga i g hg
    exact ⟨(R.own k g hg).1, (R.own k g hg).2.1⟩
  · intro i j g hi hj
    have := (hga i g hi).1
    have := (hga j g hj).1
    omega
  · rintro e w' ⟨v, r, outs, H', γr, γo, rfl, hR, hret⟩
    refine ⟨v, rfl, ?_⟩
    have hE : ∀ g, g ∈ (List.range xs.length).flatMap γa → g ∈ γ k := by
      intro g hg
      rw [List.mem_flatMap] at hg
      obtain ⟨i, _, hg⟩ := hg
      exact (hga i g hg).2
    have hold : ∀ g, (∃ i, g ∈ γa i) → g ∈ γ k := fun g ⟨i, h⟩ => (hga i g h).2
    have R1 := R.drop k
    have hdisj : ∀ i g, g ∈ (updN γ k []) i → g ∉ γ k := by
      intro i g hg hgk
      by_cases h : i = k
      · simp [updN, h] at hg
      · simp only [updN, h, if_false] at hg
        exact h (R.disj i k g hg hgk)
    have R2 : Rel C H (updN γ k []) (put S k .junk) a.tmps w' := R1.world_free (fun g => g ∈ γ k) (fun g _ hg => ⟨(R.own k g hg).1, fun i hi => hdisj i g hi hg, (R.own k g hg).2.2⟩)
      (fun g hlt hg => hret.fr.blk g hlt (fun h => hg (hE g h))) hret.fr.os hret.fr.tape hret.fr.output hret.fr.size
    have hC : ∀ g, w.heap.size ≤ g ∨ (∃ i, g ∈ γa i) → C.w0.heap.size ≤ g ∨ g ∈ C.E := by
      rintro g (h | h)
      · exact .inl (Nat.le_trans R.fr.size h)
      · exact (R.own k g (hold g h)).2.2
    have R3 : Rel C H' (updN γ k []) (put S k .junk) a.tmps w' := R2.imm_more hret.le hret.imm (fun i g hg => by
      obtain ⟨h1, _, _⟩ := R1.own i g hg
      have hlt := (R1.own i g hg).2.1
      cases hg' : H' g with
      | none => rfl
      | some o =>
        rcases hret.new g o hg' with h | h | h
        · rw [h1] at h; cases h
        · omega
        · exact absurd (hold g h) (hdisj i g hg)) (fun g o hg => (hret.new g o hg).elim .inl fun h => .inr (hC g h))
    obtain ⟨o1, o2, o3⟩ := hret.out p v0 hv0
    have R4 := R3.regain (k := k) (bs := γo p) hk0 (put_self ..) o2 o1 o3 (fun g hg => let ⟨b1, b2, b3⟩ := hret.oown p g hg; ⟨b1, b2, hC g b3⟩) (fun i g hg hgo => by
      rcases (hret.oown p g hgo).2.2 with h | h
      · have := (R1.own i g hg).2.1; omega
      · exact hdisj i g hg (hold g h))
    rw [upd_put] at R4
    refine res_ok (bs := γr) hdf hgo R4 hret.res hret.rref hret.rno (fun g hg => let ⟨b1, b2, b3⟩ := hret.rown g hg; ⟨b1, b2, hC g b3⟩) (fun i g hg hgr => ?_) (hK r outs hR)
    by_cases h : i = k
    · simp only [updN, h, if_true] at hg
      exact hret.rdis p g hg hgr
    · have h' : g ∈ (updN γ k []) i := by simpa [updN, h] using hg
      rcases (hret.rown g hgr).2.2 with h2 | h2
      · have := (R1.own i g h').2.1; omega
      · exact hdisj i g h' (hold g h2)
end
end Go.Proofs.YtcmaledchnhccaaGreatDoor

/-! The abstract meaning of every operation, and that the model keeps it. No condition. -/
namespace Go.Proofs.YtcmaledchnhccaaGreatDoor
open Go Go.RowKit

/-- values handed on for good, but the one at place p, which is lent: what slot k owns -/
def pstX (k : Nat) : Nat → (Nat → AV) → List Operand → ((Nat → AV) → List AV → Prop) → Prop
  | _, _, [], _ => False
  | 0, S, x :: xs, K => evA S x = .rf k ∧ pstL S xs fun S' ys => (S' k).owner = true ∧ K S' (S' k :: ys)
  | p + 1, S, x :: xs, K => pst S (evA S x) fun S1 y => pstX k p S1 xs fun S' ys => K S' (y :: ys)

section
variable {C : Ctx} {H H' : Imm} {γ : Nat → List Nat} {S : Nat → AV} {tmps : Array Value} {w w' : World} {P : Program}

theorem pstX_ok {a : Act} {k : Nat} : ∀ (p : Nat) (xs : List Operand) {H : Imm} {γ : Nat → List Nat} {S : Nat → AV} {K : (Nat → AV) → List AV → Prop}, Rel C H γ S a.tmps w → pstX k p S xs K →
    ∃ S' H' γ' ys, H.le H' ∧ K S' ys ∧ Rel C H' γ' S' a.tmps w ∧ ys.length = xs.length ∧ ys[p]? = some (S' k) ∧ (S' k).owner = true ∧ (∃ x, xs[p]? = some x ∧ a.tmps[k]? = some (a.eval x)) ∧
      ∀ (j : Nat) (x : Operand) (y : AV), j ≠ p → xs[j]? = some x → ys[j]? = some y → V H' y (a.eval x)
  | _, [], _, _, _, _, _, h => by unfold pstX at h; exact h.elim
  | 0, x :: xs, H, γ, S, K, R, h => by
    obtain ⟨he, h⟩ := h
    obtain ⟨S', H', γ', ys, hle, ⟨ho, hK⟩, R', hn, hr⟩ := pstL_ok R h
    have hx := evA_ok R x
    rw [he] at hx
    refine ⟨S', H', γ', _, hle, hK, R', by simp [hn], rfl, ho, ⟨x, rfl, hx.2⟩, fun j x' y hj hx' hy => ?_⟩
    cases j with
    | zero => exact absurd rfl hj
    | succ j => exact hr j x' y (by simpa using hx') (by simpa using hy)
  | p + 1, x :: xs, H, γ, S, K, R, h => by
    obtain ⟨S1, H1, γ1, y, h1, R1, hv⟩ := pst_ok' R (evA_ok R x) h
    obtain ⟨S', H', γ', ys, hle, hK, R', hn, hp, ho, ⟨x', hx', hk⟩, hr⟩ := pstX_ok p xs R1 h1.2
    refine ⟨S', H', γ', _, Imm.le_trans h1.1 hle, hK, R', by simp [hn], by simpa using hp, ho, ⟨x', by simpa using hx', hk⟩, fun j x'' y' hj hx'' hy => ?_⟩
    cases j with
    | zero => simp at hx'' hy; subst hx'' hy; exact hv.mono hle
    | succ j => exact hr j x'' y' (by omega) (by simpa using hx'') (by simpa using hy)

/-- A call, by one of three ways. -/
inductive CallP (P : Program) (S : Nat → AV) (o : Oper) (g : FuncId) (ops : List Operand) (caps : List AV) (K : (Nat → AV) → Prop) : Prop
  | A (Rr : AV → List AV → Prop) (hb : (ops.map (evA S) ++ caps).all (brwOK S) = true) (hc : AC P g ((ops.map (evA S) ++ caps).map (brw S)) Rr) (hK : ∀ r outs, Rr r outs → r.closed = true ∧ resK o S K r)
  | C (h : pstL S ops fun S' ys => ∃ Rr, AC P g (ys ++ caps) Rr ∧ ∀ r outs, Rr r outs → resK o S' K r)
  | B (p k : Nat) (h : pstX k p S ops fun S' ys => ∃ Rr, AC P g (ys ++ caps) Rr ∧ ∀ r outs, Rr r outs → resK o (put S' k (outs.getD p .junk)) K r)

theorem run_callv {a : Act} {o : Oper} {c : Call} {fo : Operand} {g : FuncId} {arr : Array Value} (ho : o.op = .call c) (hf : c.callee = .value fo) (hv : a.eval fo = .func (.func g) #[] arr) (he : Enters P g) (w : World) :
    (execOp a.eval o).run P w = .ok (.enter g (c.args.map a.eval ++ arr)) w := by
  unfold execOp
  rw [ho]
  show ((resolve a.eval c o.type >>= fun d => invoke d.target d.args) : Sem Next).run P w = _
  have : (resolve a.eval c o.type).run P w = .ok { target := .fn (.func g) arr, args := #[] ++ c.args.map a.eval } w := by
    unfold resolve
    rw [hf]
    simp only [hv, Deferred.ofValue]
    rfl
  rw [run_bind_ok this]
  show (callFunc g ((#[] ++ c.args.map a.eval) ++ arr)).run P w = _
  rw [he]
  simp

theorem op_callP {o : Oper} {a : Act} {c : Call} {fo : Operand} {K : (Nat → AV) → Prop} {Q : Exit → Act → World → Prop} {g : FuncId} {caps : List AV} (ho : o.op = .call c) (hf : c.callee = .value fo) (hdf : a.defers = []) (hgo : Good C o)
    (R : Rel C H γ S a.tmps w) (hfn : evA S fo = .fn g caps) (h : CallP P S o g c.args.toList caps K) : o.wp P a w (Post C K) Q := by
  have hfo := evA_ok R fo
  rw [hfn] at hfo
  obtain ⟨arr, hv, ⟨hn, hcr⟩, hsc⟩ := V_fn_iff.1 hfo
  have hrun : ∀ w, Enters P g → (execOp a.eval o).run P w = .ok (.enter g (c.args.map a.eval ++ arr)) w := fun w he => run_callv ho hf hv he w
  have hget : ∀ (ys : List AV), ys.length = c.args.toList.length → ∀ (i : Nat) (y : AV) (v : Value), (ys ++ caps)[i]? = some y → (c.args.map a.eval ++ arr)[i]? = some v →
      (∃ x, c.args.toList[i]? = some x ∧ ys[i]? = some y ∧ v = a.eval x) ∨ (ys.length ≤ i ∧ V H y v) := by
    intro ys hl i y v hy hv
    have hl' : ys.length = c.args.size := by simpa using hl
    rw [List.getElem?_append] at hy
    rw [Array.getElem?_append] at hv
    simp only [Array.size_map] at hv
    by_cases hi : i < ys.length
    · have hi' : i < c.args.size := by omega
      rw [if_pos hi] at hy
      rw [if_pos hi'] at hv
      rw [Array.getElem?_map, Option.map_eq_some_iff] at hv
      obtain ⟨x, hx, rfl⟩ := hv
      exact .inl ⟨x, by rw [Array.getElem?_toList]; exact hx, hy, rfl⟩
    · have hi' : ¬ i < c.args.size := by omega
      rw [if_neg hi] at hy
      rw [if_neg hi'] at hv
      obtain ⟨u, hu, huv⟩ := hcr _ _ hy
      rw [hl', hv] at hu
      cases hu
      exact .inr ⟨by omega, huv⟩
  cases h with
  | A Rr hb hc hK =>
    refine callA hdf hgo (hrun w) R (by simp [hn]) (fun i x v hx hv => ?_) hb hc hK
    rcases hget (c.args.toList.map (evA S)) (by simp) i x v hx hv with ⟨x0, h1, h2, rfl⟩ | ⟨_, h⟩
    · rw [List.getElem?_map, h1] at h2
      cases h2
      exact evA_ok R x0
    · exact AOK.of_V h
  | C h =>
    obtain ⟨S', H', γ', ys, hle, ⟨Rr, hc, hK⟩, R', hl, hr⟩ := pstL_ok R h
    refine callC hdf hgo (hrun w) R' (by simp [hn, hl]) (fun i x v hx hv => ?_) hc hK
    rcases hget ys hl i x v hx hv with ⟨x0, h1, h2, rfl⟩ | ⟨_, h⟩
    · exact hr i x0 x h1 h2
    · exact h.mono hle
  | B p k h =>
    obtain ⟨S', H', γ', ys, hle, ⟨Rr, hc, hK⟩, R', hl, hp, hown, ⟨x0, hx0, hk0⟩, hr⟩ := pstX_ok p _ R h
    have hpl : p < ys.length := getElem?_lt hp
    refine callB (p := p) (k := k) (v0 := a.eval x0) hdf hgo (hrun w) R' (by simp [hn, hl]) (by rw [List.getElem?_append_left hpl]; exact hp) hown ?_ hk0 (fun i x v hip hx hv => ?_) hc hK
    · have hl' : ys.length = c.args.size := by simpa using hl
      have : p < c.args.size := by omega
      rw [Array.getElem?_append_left (by simpa using this), Array.getElem?_map, ← Array.getElem?_toList, hx0]; rfl
    · rcases hget ys hl i x v hx hv with ⟨x1, h1, h2, rfl⟩ | ⟨_, h⟩
      · exact hr i x1 x hip h1 h2
      · exact h.mono hle

/-- copies of what a slot holds; an assignment of an owner hands it on -/
def aAssign (P : Program) (S : Nat → AV) (o : Oper) (x : Operand) (K : (Nat → AV) → Prop) : Prop :=
  match x with
  | .tmp t => if (S t).owner then (match o.dst with
      | some d => d ≠ t ∧ K (put (put S t .junk) d (S t))
      | none => K S)
    else retK o S K (evA S x)
  | .const (.slice none 0 0) => (match P.underlying o.type with
    | some (.slice e) => ownK o S K (.ow e (P.cellsOf e) [])
    | _ => False)
  | x => retK o S K (evA S x)
theorem op_assign {o : Oper} {a : Act} {x : Operand} {K : (Nat → AV) → Prop} {Q : Exit → Act → World → Prop} (ho : o.op = .assign x) (hdf : a.defers = []) (hgo : Good C o) (R : Rel C H γ S a.tmps w) (h : aAssign P S o x K) : o.wp P a w (Post C K) Q := by
  have hrun : (execOp a.eval o).run P w = .ok (.value (a.eval x)) w := by unfold execOp; rw [ho]; rfl
  unfold aAssign at h
  split at h
  · rename_i t
    split at h
    · rename_i hown
      unfold Oper.wp
      rw [hrun, Oper.upon_value]
      unfold Act.put
      cases hd : o.dst with
      | none => rw [hd] at h; exact ⟨hdf, S, H, γ, h, R⟩
      | some d =>
        rw [hd] at h
        obtain ⟨hne, hK⟩ := h
        obtain ⟨h1, h2⟩ := hgo d hd
        obtain ⟨v, hv, hh⟩ := R.owner_val hown
        have hval : a.eval (.tmp t) = v := by simp [Act.eval, hv]
        have hr : (S t).isRef = false := by cases hS : S t <;> rw [hS] at hown <;> first | rfl | cases hown
        have R1 := R.drop t
        refine ⟨hdf, _, H, _, hK, R1.put_gen (bs := γ t) (by rw [R.sz]; exact h1) h2 ((SOK_of_held (by rw [put_self]; exact hr)).2 (by rw [put_self, hval]; simpa [updN] using hh)) (fun h => by rw [hown] at h; cases h) (fun g hg => R.own t g hg) (fun i g _ hg hgt => ?_)⟩
        by_cases hi : i = t
        · simp [updN, hi] at hg
        · simp only [updN, hi, if_false] at hg
          exact hi (R.disj i t g hg hgt)
    · exact op_ret hdf hgo hrun R (evA_ok R _) h
  · split at h
    · rename_i e hT
      exact op_own (y := .ow e (P.cellsOf e) []) (bs := []) hdf hgo hrun R (Below.refl _ _) (.inl ⟨rfl, rfl, rfl⟩) (by simp) rfl h
    · exact h.elim
  · exact op_ret hdf hgo hrun R (evA_ok R _) h

def aPick (S : Nat → AV) (c x y : Operand) (K : AV → Prop) : Prop :=
  match evA S c with
  | .bool b => K (if b then evA S x else evA S y)
  | _ => False

/-- a new row behind a slice value, or a box behind a pointer -/
theorem op_new {o : Oper} {a : Act} {K : (Nat → AV) → Prop} {Q : Exit → Act → World → Prop} {e s : Nat} {es : List (List AV)} {arr : Array Value} {c : Nat} (hdf : a.defers = []) (hgo : Good C o)
    (hrun : (execOp a.eval o).run P w = .ok (.value (.slice (some ⟨w.heap.size, 0, none⟩) es.length c)) (w.alloc (.cells arr e))) (R : Rel C H γ S a.tmps w) (hc : es.length ≤ c) (hc2 : c ≤ maxLen) (hsz : arr.size = c * s) (hr : RowRel H s es arr 0)
    (hK : ownK o S K (.ow e s es)) : o.wp P a w (Post C K) Q :=
  op_own (y := .ow e s es) (bs := [w.heap.size]) hdf hgo hrun R ((Below.refl _ _).alloc (Nat.le_refl _) _) (.inr ⟨w.heap.size, c, arr, rfl, rfl, heap_alloc_new w _, hc, hc2, hsz, hr⟩) (by simp) rfl hK
end
end Go.Proofs.YtcmaledchnhccaaGreatDoor

/-! Equality of plain structs; the abstract meaning of an operation. No condition. -/
namespace Go.Proofs.YtcmaledchnhccaaGreatDoor
open Go Go.RowKit

/-- of each field: 0 a whole number, 1 a text, 2 a bool -/
def tagsGo (P : Program) : List Field → Nat → Option (List Nat)
  | [], _ => some []
  | f :: fs, i =>
    if f.name = "_" ∨ f.offset ≠ i then none
    else match P.underlying f.type, tagsGo P fs (i + 1) with
    | some (.int _), some r => some (0 :: r)
    | some .string, some r => some (1 :: r)
    | some .bool, some r => some (2 :: r)
    | _, _ => none
def eqTags (P : Program) (T : TypeId) : Option (List Nat) :=
  match P.underlying T with
  | some (.struct fields) => if P.stoodInHeld T = true ∨ P.eqGuardType P.depth T = true then none else tagsGo P fields.toList 0
  | _ => none
def eqC : Nat → AV → AV → Option Bool
  | 0, .int k a, .int k' b => if k = k' then some (decide (a = b)) else none
  | 1, .str a, .str b => some (decide (a = b))
  | 2, .bool a, .bool b => some (a == b)
  | _, _, _ => none
def eqCs : List Nat → List AV → List AV → Option Bool
  | [], [], [] => some true
  | t :: ts, x :: xs, y :: ys => match eqC t x y, eqCs ts xs ys with
    | some b, some r => some (b && r)
    | _, _ => none
  | _, _, _ => none

section
variable {H : Imm} {P : Program} {w : World}

theorem run_part {T : TypeId} {d : TypeDesc} (hT : P.underlying T = some d) (hd : aggD d = false) {cs : Array Value} {i : Nat} {v : Value} (hv : cs[i]? = some v) (w : World) : (part T cs i).run P w = .ok v w := by
  unfold part
  rw [run_bind_ok (run_isAgg hT w), hd]
  simp only [hv]; rfl
theorem run_eqFields (d : Nat) : ∀ (fs : List Field) (i : Nat) (ts : List Nat) (xs ys : List AV) (us vs : Array Value) (b : Bool), tagsGo P fs i = some ts → eqCs ts (xs.drop i) (ys.drop i) = some b → Vs H xs us → Vs H ys vs →
    (Op.eqFields (d + 1) us vs fs).run P w = .ok b w
  | [], i, ts, xs, ys, us, vs, b, ht, he, hu, hv => by
    simp only [tagsGo, Option.some.injEq] at ht
    subst ht
    cases hx : xs.drop i <;> cases hy : ys.drop i <;> rw [hx, hy] at he <;> simp [eqCs] at he
    subst he
    rfl
  | f :: fs, i, ts, xs, ys, us, vs, b, ht, he, hu, hv => by
    simp only [tagsGo] at ht
    split at ht
    · cases ht
    · rename_i hc
      have hname : f.name ≠ "_" := fun h => hc (.inl h)
      have hoff : f.offset = i := Decidable.byContradiction fun h => hc (.inr h)
      -- the two cells
      have step : ∀ (t : Nat) (r : List Nat) (dd : TypeDesc), P.underlying f.type = some dd → aggD dd = false → ts = t :: r → tagsGo P fs (i + 1) = some r →
          (∀ (x y : AV) (u v : Value) (c : Bool), V H x u → V H y v → eqC t x y = some c → (Op.equalIn (d + 1) f.type u v).run P w = .ok c w) → (Op.eqFields (d + 1) us vs (f :: fs)).run P w = .ok b w := by
        intro t r dd hdd hagg hts hr heq
        subst hts
        cases hx : xs.drop i with
        | nil => rw [hx] at he; cases hy : ys.drop i <;> rw [hy] at he <;> simp [eqCs] at he
        | cons x xs' =>
          cases hy : ys.drop i with
          | nil => rw [hx, hy] at he; simp [eqCs] at he
          | cons y ys' =>
            rw [hx, hy] at he
            simp only [eqCs] at he
            split at he
            · rename_i c r' hc' hr'
              cases he
              have hxi : xs[i]? = some x := by have := congrArg (·[0]?) hx; simpa using this
              have hyi : ys[i]? = some y := by have := congrArg (·[0]?) hy; simpa using this
              have hxd : xs.drop (i + 1) = xs' := by have := congrArg (List.drop 1) hx; simpa [Nat.add_comm] using this
              have hyd : ys.drop (i + 1) = ys' := by have := congrArg (List.drop 1) hy; simpa [Nat.add_comm] using this
              obtain ⟨u, hui, hxu⟩ := hu.2 i x hxi
              obtain ⟨v, hvi, hyv⟩ := hv.2 i y hyi
              have ih := run_eqFields d fs (i + 1) r xs ys us vs r' hr (by rw [hxd, hyd]; exact hr') hu hv
              simp only [Op.eqFields, hname, ne_eq, not_false_eq_true, if_true]
              rw [run_bind_ok (run_part hdd hagg (by rw [hoff]; exact hui) w), run_bind_ok (run_part hdd hagg (by rw [hoff]; exact hvi) w), run_bind_ok (heq x y u v c hxu hyv hc')]
              cases c
              · rfl
              · exact ih
            · cases he
      split at ht
      · rename_i kk r hT hr
        cases ht
        refine step 0 r _ hT rfl rfl hr fun x y u v c hxu hyv hcc => ?_
        cases x <;> cases y <;> simp [eqC] at hcc
        obtain ⟨rfl, rfl⟩ := hcc
        rw [V_int hxu, V_int hyv, run_equalIn_int w d f.type _ kk _ _ hT]
        rfl
      · rename_i r hT hr
        cases ht
        refine step 1 r _ hT rfl rfl hr fun x y u v c hxu hyv hcc => ?_
        cases x <;> cases y <;> simp [eqC] at hcc
        subst hcc
        obtain ⟨s, rfl, rfl⟩ := V_str hxu
        obtain ⟨t, rfl, rfl⟩ := V_str hyv
        rw [run_equalIn_string w d f.type _ _ hT, str_dec]
      · rename_i r hT hr
        cases ht
        refine step 2 r _ hT rfl rfl hr fun x y u v c hxu hyv hcc => ?_
        cases x <;> cases y <;> simp [eqC] at hcc
        subst hcc
        rw [V_bool hxu, V_bool hyv, run_equalIn_bool' w d f.type _ _ hT]
      · cases ht

theorem run_eqAgg {T : TypeId} {ts : List Nat} {xs ys : List AV} {v1 v2 : Value} {b : Bool} (ht : eqTags P T = some ts) (he : eqCs ts xs ys = some b) (h1 : V H (.agg xs) v1) (h2 : V H (.agg ys) v2) (w : World) :
    (Op.equal T v1 v2).run P w = .ok b w ∧ ∀ op xo yo, (eqGuard op T xo yo v1 v2).run P w = .ok () w := by
  unfold eqTags at ht
  split at ht
  · rename_i fields hT
    split at ht
    · cases ht
    · rename_i hc
      have hp : P.stoodInHeld T = false := by
        cases h : P.stoodInHeld T with
        | false => rfl
        | true => exact absurd (.inl h) hc
      have hg : P.eqGuardType P.depth T = false := by
        cases h : P.eqGuardType P.depth T with
        | false => rfl
        | true => exact absurd (.inr h) hc
      obtain ⟨us, rfl, hu, _⟩ := V_agg_iff.1 h1
      obtain ⟨vs, rfl, hv, _⟩ := V_agg_iff.1 h2
      have hF : P.fieldsOf T = fields := by unfold Program.fieldsOf; rw [hT]
      constructor
      · unfold Op.equal
        show (Op.equalIn (9999 + 1) _ _ _).run P w = _
        rw [run_equalIn_struct w 9999 T us vs (by rw [hF]; exact hT) hp, hF]
        exact run_eqFields 9998 fields.toList 0 ts xs ys us vs b ht (by simpa using he) hu hv
      · intro op xo yo
        unfold eqGuard
        cases op <;> first
          | rfl
          | (simp only [go_sem]; simp [hg])
  · cases ht
end
end Go.Proofs.YtcmaledchnhccaaGreatDoor

/-! The abstract meaning of code: operations, regions, branches, loops; and that the model keeps it. No condition. -/
namespace Go.Proofs.YtcmaledchnhccaaGreatDoor
open Go Go.RowKit

/-- the literal nil, of the type that is compared -/
def nilT (P : Program) (T : TypeId) (y : Operand) : Bool :=
  match y, P.underlying T with
  | .const (.pointer none), some (.pointer _) => true
  | .const (.slice none 0 0), some (.slice _) => true
  | _, _ => false
def aBinop (P : Program) (S : Nat → AV) (op : BinOp) (T : TypeId) (x y : Operand) (K : AV → Prop) : Prop :=
  if nilT P T y then (match op with
    | .eql => aIsNil P S T (evA S x) fun b => K (.bool b)
    | .neq => aIsNil P S T (evA S x) fun b => K (.bool (!b))
    | _ => False)
  else match evA S x, evA S y with
    | .agg xs, .agg ys => (match eqTags P T with
      | some ts => (match eqCs ts xs ys, op with
        | some b, .eql => K (.bool b)
        | some b, .neq => K (.bool (!b))
        | _, _ => False)
      | none => False)
    | u, v => aBinT P op T u v K
def aMinMax (mx : Bool) (x y : AV) (K : AV → Prop) : Prop :=
  match x, y with
  | .int k a, .int k' b => k = k' ∧ K (.int k (if mx then max a b else min a b))
  | _, _ => False
def aBuiltin (P : Program) (S : Nat → AV) (o : Oper) (b : Builtin) (Ts : List TypeId) (xs : List Operand) (K : (Nat → AV) → Prop) : Prop :=
  match b, Ts, xs with
  | .len, [T], [x] => aLen P S T (evA S x) (retK o S K)
  | .append, [T, T'], [x, y] => T' = T ∧ aAppend P S T x (evA S y) fun k z => (match k, o.dst with
      | some k, some d => d ≠ k ∧ K (put (put S k .junk) d z)
      | none, some d => K (put S d z)
      | _, none => False)
  | .max, _, [x, y] => aMinMax true (evA S x) (evA S y) (retK o S K)
  | .min, _, [x, y] => aMinMax false (evA S x) (evA S y) (retK o S K)
  | _, _, _ => False
def aop (P : Program) (S : Nat → AV) (o : Oper) (K : (Nat → AV) → Prop) : Prop :=
  match o.op with
  | .move x => retK o S K (evA S x)
  | .assign x => aAssign P S o x K
  | .pick c x y => aPick S c x y (retK o S K)
  | .alloc T => aAlloc P T (ownK o S K)
  | .box T x => pst S (evA S x) fun S' y => y.flat = true ∧ ownK o S' K (.bx T (cellsV y).length [cellsV y])
  | .build T parts => aBuild P S T parts.toList fun S' z => retK o S' K z
  | .buildSlice T len parts => aBuildSlice P S T len parts.toList fun S' y => ownK o S' K y
  | .load T x => aLoad P S T (evA S x) (retK o S K)
  | .store T x y => o.dst = none ∧ pst S (evA S y) fun S' z => aStore P S' T (evA S' x) z K
  | .nilCheck x => aNilCheck S (evA S x) (retK o S K)
  | .binOp op T x y _ => aBinop P S op T x y (retK o S K)
  | .unOp op _ x => aUn op (evA S x) (retK o S K)
  | .convert s d x => aConv P s d (evA S x) (retK o S K)
  | .makeFunc (.func f) first captured => first = #[] ∧ pstL S captured.toList fun S' ys => ys.all AV.sc = true ∧ retK o S' K (.fn f ys)
  | .makeSlice T l c => (match evA S l, evA S c with
    | .int .i64 l, .int .i64 c => aMake P T l c (ownK o S K)
    | _, _ => False)
  | .slice T x lo hi none => aSlice P S T (evA S x) lo hi (retK o S K)
  | .fieldAddr T x f => aField P S T (evA S x) f (retK o S K)
  | .indexAddr T x i => (match evA S i with
    | .int _ n => aIndex P S T (evA S x) n (retK o S K)
    | _ => False)
  | .index T x i => (match evA S i with
    | .int _ n => aStrIdx P T (evA S x) n (retK o S K)
    | _ => False)
  | .extract x i => aExtract (evA S x) i (retK o S K)
  | .call c => (match c.callee with
    | .value f => (match evA S f with
      | .fn g caps => CallP P S o g c.args.toList caps K
      | _ => False)
    | .builtin b => aBuiltin P S o b c.argTypes.toList c.args.toList K
    | _ => False)
  | _ => False

section
variable {C : Ctx} {H H' : Imm} {γ : Nat → List Nat} {S : Nat → AV} {tmps : Array Value} {w w' : World} {P : Program}

theorem aBinT_pers {op : BinOp} {T : TypeId} {x y : AV} {K : AV → Prop} (h : aBinT P op T x y K) : x.pers = true ∧ y.pers = true := by
  cases x <;> cases y <;> first
    | exact ⟨rfl, rfl⟩
    | (cases op <;> exact h.elim)
theorem run_aBinop {a : Act} (R : Rel C H γ S a.tmps w) {op : BinOp} {T : TypeId} {x y : Operand} {K : AV → Prop} (h : aBinop P S op T x y K) :
    ∃ z v, (do eqGuard op T x y (a.eval x) (a.eval y); binOp op T (a.eval x) (a.eval y) : Sem Value).run P w = .ok v w ∧ V H z v ∧ K z := by
  unfold aBinop at h
  split at h
  · rename_i hnil
    have hc : (a.eval y = .pointer none ∧ (∃ e, P.underlying T = some (.pointer e))) ∨ (a.eval y = .slice none 0 0 ∧ (∃ e, P.underlying T = some (.slice e))) := by
      unfold nilT at hnil
      split at hnil
      · rename_i h1; exact .inl ⟨rfl, _, h1⟩
      · rename_i h1; exact .inr ⟨rfl, _, h1⟩
      · cases hnil
    have fin : ∀ (b : Bool), (Op.equal T (a.eval x) (a.eval y)).run P w = .ok b w → ((∃ p, a.eval x = .pointer p) ∨ ∃ p n m, a.eval x = .slice p n m) →
        (do eqGuard .eql T x y (a.eval x) (a.eval y); binOp .eql T (a.eval x) (a.eval y) : Sem Value).run P w = .ok (.bool b) w ∧
        (do eqGuard .neq T x y (a.eval x) (a.eval y); binOp .neq T (a.eval x) (a.eval y) : Sem Value).run P w = .ok (.bool (!b)) w := by
      intro b hb hsh
      have hbin : binOp .eql T (a.eval x) (a.eval y) = (do pure (.bool (← Op.equal T (a.eval x) (a.eval y)))) ∧ binOp .neq T (a.eval x) (a.eval y) = (do pure (.bool (!(← Op.equal T (a.eval x) (a.eval y))))) := by
        rcases hsh with ⟨p, hp⟩ | ⟨p, n, m, hp⟩ <;> rcases hc with ⟨hy, _⟩ | ⟨hy, _⟩ <;> rw [hp, hy] <;> exact ⟨rfl, rfl⟩
      have hg : ∀ op, (eqGuard op T x y (a.eval x) (a.eval y)).run P w = .ok () w := by
        intro op
        rcases hsh with ⟨p, hp⟩ | ⟨p, n, m, hp⟩ <;> rw [hp]
        · exact eqGuard_ptr ..
        · exact eqGuard_slice ..
      constructor
      · rw [run_bind_ok (hg _), hbin.1, run_bind_ok hb]; rfl
      · rw [run_bind_ok (hg _), hbin.2, run_bind_ok hb]; rfl
    split at h
    · obtain ⟨b, hb, hK, hsh⟩ := run_isNil R (evA_ok R x) h hc
      exact ⟨_, _, (fin b hb hsh).1, .bool _, hK⟩
    · obtain ⟨b, hb, hK, hsh⟩ := run_isNil R (evA_ok R x) h hc
      exact ⟨_, _, (fin b hb hsh).2, .bool _, hK⟩
    · exact h.elim
  · have hx := evA_ok R x
    have hy := evA_ok R y
    split at h
    · rename_i xs ys hex hey
      rw [hex] at hx
      rw [hey] at hy
      split at h
      · rename_i ts hts
        obtain ⟨us, hus, _⟩ := V_agg_iff.1 hx
        obtain ⟨vs, hvs, _⟩ := V_agg_iff.1 hy
        split at h
        · rename_i b hb
          obtain ⟨h1, h2⟩ := run_eqAgg hts hb hx hy w
          refine ⟨_, _, ?_, .bool b, h⟩
          rw [run_bind_ok (h2 _ x y)]
          have : binOp .eql T (a.eval x) (a.eval y) = (do pure (.bool (← Op.equal T (a.eval x) (a.eval y)))) := by rw [hus, hvs]; rfl
          rw [this, run_bind_ok h1]; rfl
        · rename_i b hb
          obtain ⟨h1, h2⟩ := run_eqAgg hts hb hx hy w
          refine ⟨_, _, ?_, .bool (!b), h⟩
          rw [run_bind_ok (h2 _ x y)]
          have : binOp .neq T (a.eval x) (a.eval y) = (do pure (.bool (!(← Op.equal T (a.eval x) (a.eval y))))) := by rw [hus, hvs]; rfl
          rw [this, run_bind_ok h1]; rfl
        · exact h.elim
      · exact h.elim
    · have hp : (evA S x).pers = true ∧ (evA S y).pers = true := by
        exact aBinT_pers h
      exact run_aBin (hx.pers hp.1) (hy.pers hp.2) h

theorem op_retV {o : Oper} {a : Act} {K : (Nat → AV) → Prop} {Q : Exit → Act → World → Prop} {s : Sem Value} (hdf : a.defers = []) (hgo : Good C o) (he : execOp a.eval o = (do pure (.value (← s)))) (R : Rel C H γ S a.tmps w)
    (h : ∃ z v, s.run P w = .ok v w ∧ V H z v ∧ retK o S K z) : o.wp P a w (Post C K) Q := by
  obtain ⟨z, v, hr, hv, hK⟩ := h
  exact op_ret hdf hgo (by rw [he, run_bind_ok hr]; rfl) R (AOK.of_V hv) hK
theorem op_retA {o : Oper} {a : Act} {K : (Nat → AV) → Prop} {Q : Exit → Act → World → Prop} {s : Sem Value} (hdf : a.defers = []) (hgo : Good C o) (he : execOp a.eval o = (do pure (.value (← s)))) (R : Rel C H γ S a.tmps w)
    (h : ∃ z v, s.run P w = .ok v w ∧ AOK H γ S a.tmps z v ∧ retK o S K z) : o.wp P a w (Post C K) Q := by
  obtain ⟨z, v, hr, hv, hK⟩ := h
  exact op_ret hdf hgo (by rw [he, run_bind_ok hr]; rfl) R hv hK

theorem minmax {mx : Bool} {x y : AV} {K : AV → Prop} (h : aMinMax mx x y K) : ∃ k a b, x = .int k a ∧ y = .int k b ∧ K (.int k (if mx then max a b else min a b)) := by
  unfold aMinMax at h
  split at h
  · obtain ⟨rfl, hK⟩ := h
    exact ⟨_, _, _, rfl, rfl, hK⟩
  · exact h.elim
theorem op_builtin {o : Oper} {a : Act} {c : Call} {b : Builtin} {K : (Nat → AV) → Prop} {Q : Exit → Act → World → Prop} (ho : o.op = .call c) (hc : c.callee = .builtin b) (hdf : a.defers = []) (hgo : Good C o) (R : Rel C H γ S a.tmps w)
    (h : aBuiltin P S o b c.argTypes.toList c.args.toList K) : o.wp P a w (Post C K) Q := by
  have hexec : ∀ w, (execOp a.eval o).run P w = (builtin b c.argTypes o.type (c.args.map fun | .const _ => true | _ => false) (c.args.map a.eval)).run P w := by
    intro w
    unfold execOp
    rw [ho]
    show ((resolve a.eval c o.type >>= fun d => invoke d.target d.args) : Sem Next).run P w = _
    have : (resolve a.eval c o.type).run P w = .ok { target := .builtin b c.argTypes o.type (c.args.map fun | .const _ => true | _ => false), args := c.args.map a.eval } w := by
      unfold resolve
      rw [hc]; rfl
    rw [run_bind_ok this]; rfl
  have harg : ∀ {xs : List Operand}, c.args.toList = xs → c.args.map a.eval = (xs.map a.eval).toArray := by
    intro xs hxs; subst hxs; rw [← Array.toList_map]
  have htyp : ∀ {ts : List TypeId}, c.argTypes.toList = ts → c.argTypes = ts.toArray := by
    intro ts hts; subst hts; rfl
  unfold aBuiltin at h
  split at h
  · rename_i T x e1 e2
    obtain ⟨z, u, hr, hv, hK⟩ := run_len (P := P) (ty := o.type) R (evA_ok R x) h
    refine op_ret hdf hgo ?_ R (AOK.of_V hv) hK
    rw [hexec, harg e2, htyp e1]
    show ((Builtin.len_ #[T] o.type #[a.eval x] >>= fun v => pure (Next.value v)) : Sem Next).run P w = _
    rw [run_bind_ok hr]; rfl
  · rename_i T T' x y e1 e2
    obtain ⟨rfl, h⟩ := h
    unfold aAppend at h
    split at h
    · rename_i e s' es' hT hsrc
      obtain ⟨hn0, hz, hs, h⟩ := h
      split at hz
      · rename_i zc hzc
        have go : ∀ {S0 : Nat → AV} {γ0 : Nat → List Nat} {bs : List Nat} {es : List (List AV)} {d : Nat}, Rel C H γ0 S0 a.tmps w → OwnS H w bs e (P.cellsOf e) es (a.eval x) → o.dst = some d → (∀ g, g ∈ bs → H g = none ∧ (C.w0.heap.size ≤ g ∨ g ∈ C.E)) → (∀ i g, g ∈ γ0 i → g ∉ bs) →
            (es.length + es'.length) * P.bytesOf e ≤ 140737488355328 → es.length + es'.length ≤ 140737488355328 → K (put S0 d (.ow e (P.cellsOf e) (es ++ es'))) → o.wp P a w (Post C K) Q := by
          intro S0 γ0 bs es d R0 hown hd hbs hdis hb hb2 hK
          obtain ⟨v', w', bs', hr, hO, hgr, hg1, hg2⟩ := run_aappend (ty := o.type) R hT hn0 hzc hz (evA_ok R y) ⟨s', hsrc, hs⟩ hown hb hb2
          have hvb : ∀ g, (a.eval x).ownBlock = some g → g ∈ bs := by
            intro g hg
            rcases hown with ⟨_, hv, _⟩ | ⟨g', cap, cur, rfl, hv, _⟩
            · rw [hv] at hg; cases hg
            · rw [hv] at hg; simp only [Value.ownBlock, Option.some.injEq] at hg; simp [hg]
          have R1 : Rel C H γ0 S0 a.tmps w' := R0.world_free (fun g => g ∈ bs) (fun g _ hg => ⟨(hbs g hg).1, fun i hi => hdis i g hi hg, (hbs g hg).2⟩) (fun g hlt hg => hgr.block g hlt (fun h => hg (hvb g h.symm))) hgr.os hgr.tape hgr.output hgr.size
          obtain ⟨h1, h2⟩ := hgo d hd
          have hrun : (execOp a.eval o).run P w = .ok (.value v') w' := by
            rw [hexec, harg e2, htyp e1]
            show ((Builtin.append_ #[T', T'] o.type #[a.eval x, a.eval y] >>= fun v => pure (Next.value v)) : Sem Next).run P w = _
            rw [run_bind_ok hr]; rfl
          unfold Oper.wp
          rw [hrun, Oper.upon_value]
          unfold Act.put
          rw [hd]
          refine ⟨hdf, _, H, _, hK, R1.put_gen (bs := bs') (by rw [R1.sz]; exact h1) h2 ((SOK_of_held (by rw [put_self]; rfl)).2 (by rw [put_self]; simpa [updN, Held] using hO)) (fun h => by cases h) (fun g hg => ?_) (fun i g _ hg hgb => ?_)⟩
          · rcases hg1 g hg with h | h
            · exact ⟨(hbs g h).1, hg2 g hg, (hbs g h).2⟩
            · exact ⟨R.fresh_H h, hg2 g hg, .inl (Nat.le_trans R.fr.size h)⟩
          · rcases hg1 g hgb with h | h
            · exact hdis i g hg h
            · have := (R0.own i g hg).2.1; omega
        split at h
        · rename_i hnil
          obtain ⟨hb, hb2, hK⟩ := h
          have hxv : a.eval x = .slice none 0 0 := by
            unfold isNilS at hnil
            split at hnil
            · rfl
            · cases hnil
          cases hd : o.dst with
          | none => rw [hd] at hK; exact hK.elim
          | some d =>
            rw [hd] at hK
            exact go (bs := []) (es := []) R (.inl ⟨rfl, hxv, rfl⟩) hd (by simp) (by simp) (by simpa using hb) (by simpa using hb2) (by simpa using hK)
        · split at h
          · rename_i k hek
            split at h
            · rename_i e' s es hS
              obtain ⟨rfl, rfl, hb, hb2, hK⟩ := h
              have hx := evA_ok R x
              rw [hek] at hx
              obtain ⟨v', hv', hh⟩ := R.owner_val hx.1
              rw [hx.2] at hv'; cases hv'
              rw [hS] at hh
              cases hd : o.dst with
              | none => rw [hd] at hK; exact hK.elim
              | some d =>
                rw [hd] at hK
                refine go (bs := γ k) (es := es) (R.drop k) hh hd (fun g hg => ⟨(R.own k g hg).1, (R.own k g hg).2.2⟩) (fun i g hg hgk => ?_) hb hb2 hK.2
                by_cases hi : i = k
                · simp [updN, hi] at hg
                · simp only [updN, hi, if_false] at hg
                  exact hi (R.disj i k g hg hgk)
            · exact h.elim
          · exact h.elim
      · exact hz.elim
    · exact h.elim
  · rename_i T2 x y e2
    obtain ⟨k, p, q, hp, hq, hK⟩ := minmax h
    have hx := evA_ok R x
    have hy := evA_ok R y
    rw [hp] at hx
    rw [hq] at hy
    refine op_ret hdf hgo ?_ R (AOK.of_V (.int k _)) hK
    rw [hexec, harg e2]
    show ((Builtin.max_ _ o.type #[a.eval x, a.eval y] >>= fun v => pure (Next.value v)) : Sem Next).run P w = _
    rw [V_int hx, V_int hy]
    have : (Builtin.max_ c.argTypes o.type #[.int k p, .int k q]).run P w = .ok (.int k (max p q)) w := by
      rw [run_max_int2]
      congr 2
      split <;> omega
    rw [run_bind_ok this]; rfl
  · rename_i T2 x y e2
    obtain ⟨k, p, q, hp, hq, hK⟩ := minmax h
    have hx := evA_ok R x
    have hy := evA_ok R y
    rw [hp] at hx
    rw [hq] at hy
    refine op_ret hdf hgo ?_ R (AOK.of_V (.int k _)) hK
    rw [hexec, harg e2]
    show ((Builtin.min_ _ o.type #[a.eval x, a.eval y] >>= fun v => pure (Next.value v)) : Sem Next).run P w = _
    rw [V_int hx, V_int hy]
    have : (Builtin.min_ c.argTypes o.type #[.int k p, .int k q]).run P w = .ok (.int k (min p q)) w := by
      rw [run_min_int2]
      congr 2
      split <;> omega
    rw [run_bind_ok this]; rfl
  · exact h.elim
end
end Go.Proofs.YtcmaledchnhccaaGreatDoor

/-! The abstract meaning of code, and that the model keeps it; from a function's body to its contract. No condition. -/
namespace Go.Proofs.YtcmaledchnhccaaGreatDoor
open Go Go.RowKit

section
variable {C : Ctx} {H H' : Imm} {γ : Nat → List Nat} {S : Nat → AV} {tmps : Array Value} {w w' : World} {P : Program}

theorem op_sound {o : Oper} {a : Act} {K : (Nat → AV) → Prop} {Q : Exit → Act → World → Prop} (hdf : a.defers = []) (hgo : Good C o) (R : Rel C H γ S a.tmps w) (h : aop P S o K) : o.wp P a w (Post C K) Q := by
  unfold aop at h
  split at h
  · rename_i x ho
    exact op_ret hdf hgo (by unfold execOp; rw [ho]; rfl) R (evA_ok R x) h
  · rename_i x ho
    exact op_assign ho hdf hgo R h
  · rename_i c x y ho
    unfold aPick at h
    split at h
    · rename_i b hb
      have hc := evA_ok R c
      rw [hb] at hc
      have hcv := V_bool hc
      refine op_ret (v := if b then a.eval x else a.eval y) hdf hgo (by unfold execOp; rw [ho]; simp only [hcv, asBool]; rfl) R ?_ h
      cases b
      · exact evA_ok R y
      · exact evA_ok R x
    · exact h.elim
  · rename_i T ho
    exact op_alloc ho hdf hgo R h
  · rename_i T x ho
    exact op_boxv ho hdf hgo R h
  · rename_i T parts ho
    obtain ⟨S', H', γ', z, u, hr, hK, R', hv⟩ := run_abuild R h
    exact op_ret hdf hgo (by unfold execOp; rw [ho]; exact (run_bind_ok hr).trans rfl) R' (AOK.of_V hv) hK
  · rename_i T len parts ho
    obtain ⟨S', H', γ', e, s, es, arr, hr, hK, R', hl, hsz, hlen, hrow⟩ := run_abuildSlice R h
    subst hl
    exact op_new hdf hgo (by unfold execOp; rw [ho]; exact (run_bind_ok hr).trans rfl) R' (Nat.le_refl _) (by simp only [maxLen]; omega) hsz hrow hK
  · rename_i T x ho
    exact op_retV hdf hgo (by unfold execOp; rw [ho]) R (run_load R (evA_ok R x) h)
  · rename_i T x y ho
    obtain ⟨hdst, h⟩ := h
    obtain ⟨S', H', γ', z, hst, R', hv⟩ := pst_ok R (evA_ok R y) h
    obtain ⟨w', S'', hr, hK, R''⟩ := run_astore R' (evA_ok R' x) hv hst
    exact op_skip hdf hdst (by unfold execOp; rw [ho]; exact (run_bind_ok hr).trans rfl) R'' hK
  · rename_i x ho
    obtain ⟨z, u, hr, hv, hK⟩ := run_nilCheck R ho (evA_ok R x) h
    exact op_ret hdf hgo hr R hv hK
  · rename_i op T x y yT ho
    exact op_retV hdf hgo (by unfold execOp; rw [ho]) R (run_aBinop R h)
  · rename_i op T x ho
    exact op_retV hdf hgo (by unfold execOp; rw [ho]) R (run_un (evA_ok R x) h)
  · rename_i s d x ho
    exact op_retV hdf hgo (by unfold execOp; rw [ho]) R (run_conv (evA_ok R x) h)
  · rename_i f first captured ho
    obtain ⟨rfl, h⟩ := h
    obtain ⟨S', H', γ', ys, hle, ⟨hsc, hK⟩, R', hn, hr⟩ := pstL_ok R h
    refine op_ret (v := .func (.func f) #[] (captured.map a.eval)) hdf hgo (by unfold execOp; rw [ho]; show ((Instr.makeFunc (.func f) ((#[] : Array Operand).map a.eval) (captured.map a.eval) >>= fun v => pure (Next.value v)) : Sem Next).run P w = _; rw [Array.map_empty]; rfl) R' (AOK.of_V (V_fn_iff.2 ⟨_, rfl, ⟨by simp [hn], fun j x hx => ?_⟩, fun j x hx => ?_⟩)) hK
    · have hj : j < captured.size := by have := getElem?_lt hx; simpa [hn] using this
      refine ⟨a.eval captured[j], by simp [hj], hr j captured[j] x (by simp [hj]) hx⟩
    · rw [List.all_eq_true] at hsc
      exact hsc x (List.mem_of_getElem? hx)
  · rename_i T l c ho
    split at h
    · rename_i l' c' el ec
      have hl := evA_ok R l
      have hc := evA_ok R c
      rw [el] at hl
      rw [ec] at hc
      obtain ⟨e, s, es, arr, hr, hK, h1, h2, h3, hrow⟩ := run_amake H w h
      refine op_new hdf hgo (by unfold execOp; rw [ho]; simp only [V_int hl, V_int hc]; exact (run_bind_ok hr).trans rfl) R h1 (by simp only [maxLen]; omega) h2 hrow hK
    · exact h.elim
  · rename_i T x lo hi ho
    exact op_retA hdf hgo (by unfold execOp; rw [ho]; rfl) R (run_aslice R (evA_ok R x) h)
  · rename_i T x f ho
    exact op_retA hdf hgo (by unfold execOp; rw [ho]) R (run_field R (evA_ok R x) h)
  · rename_i T x i ho
    split at h
    · rename_i k n hi
      have hiv := evA_ok R i
      rw [hi] at hiv
      refine op_retA hdf hgo (s := Instr.indexAt T (a.eval x) (.int k n)) (by unfold execOp; rw [ho, ← V_int hiv]) R (run_index R (evA_ok R x) h)
    · exact h.elim
  · rename_i T x i ho
    split at h
    · rename_i k n hi
      have hiv := evA_ok R i
      rw [hi] at hiv
      refine op_retV hdf hgo (s := Instr.index T (a.eval x) (.int k n)) (by unfold execOp; rw [ho, ← V_int hiv]) R (run_strIdx (evA_ok R x) h)
    · exact h.elim
  · rename_i x i ho
    exact op_retV hdf hgo (by unfold execOp; rw [ho]) R (run_extract (evA_ok R x) h)
  · rename_i c ho
    split at h
    · rename_i f hf
      split at h
      · rename_i g caps hg
        exact op_callP ho hf hdf hgo R hg h
      · exact h.elim
    · rename_i b hb
      exact op_builtin ho hb hdf hgo R h
    · exact h.elim
  · exact h.elim

/-! ### regions -/
/-- is an operation to be carried out? its guard's slot says -/
def guardK (ops : Array Oper) (S : Nat → AV) (o : Oper) (yes no : Prop) : Prop :=
  match o.guard with
  | none => yes
  | some (j, b) => (match (ops[j]?).bind (·.dst) with
    | some t => (match S t with
      | .bool c => (c = b → yes) ∧ (c = !b → no)
      | .tup [] => no
      | _ => False)
    | none => False)
def skipK (o : Oper) (S : Nat → AV) (K : (Nat → AV) → Prop) : Prop :=
  match o.dst with
  | some d => K (put S d (.tup []))
  | none => K S
def awpOps (P : Program) (ops : Array Oper) (K : (Nat → AV) → Prop) : List Oper → (Nat → AV) → Prop
  | [], S => K S
  | o :: os, S => guardK ops S o (aop P S o (awpOps P ops K os)) (skipK o S (awpOps P ops K os))

theorem undef_V (H : Imm) : V H (.tup []) undef := V_tup_iff.2 ⟨#[], rfl, rfl, by simp⟩
theorem slot_val {a : Act} (R : Rel C H γ S a.tmps w) {t : Nat} {x : AV} (hx : S t = x) (hp : x.pers = true) : ∃ v, a.tmps[t]? = some v ∧ V H x v := by
  have hlt : t < a.tmps.size := Nat.lt_of_not_le fun h => by rw [R.out t h] at hx; subst hx; cases hp
  have hg : a.tmps[t]? = some a.tmps[t] := by simp [hlt]
  have h := R.slot t _ hg
  rw [SOK_of_held (by rw [hx]; cases x <;> first | rfl | cases hp), hx] at h
  exact ⟨_, hg, h.to_V hp⟩
theorem guard_ok {a : Act} {ops : Array Oper} {o : Oper} {yes no : Prop} (R : Rel C H γ S a.tmps w) (h : guardK ops S o yes no) :
    (Region.wanted o (yielded ops a.tmps) = true ∧ yes) ∨ (Region.wanted o (yielded ops a.tmps) = false ∧ no) := by
  unfold guardK at h
  unfold Region.wanted
  split at h
  · rename_i hg
    rw [hg]
    exact .inl ⟨rfl, h⟩
  · rename_i j b hg
    rw [hg]
    simp only
    split at h
    · rename_i t ht
      split at h
      · rename_i c hc
        obtain ⟨v, hv, hV⟩ := slot_val R hc rfl
        have hy : yielded ops a.tmps j = some c := by
          unfold yielded
          rw [ht]
          simp only [Option.bind_some, hv, V_bool hV]
        rw [hy]
        by_cases hcb : c = b
        · exact .inl ⟨by simp [hcb], h.1 hcb⟩
        · refine .inr ⟨by simp [hcb], h.2 ?_⟩
          cases c <;> cases b <;> simp_all
      · rename_i hc
        obtain ⟨v, hv, hV⟩ := slot_val R hc rfl
        obtain ⟨arr, hv', hn, _⟩ := V_tup_iff.1 hV
        have hy : yielded ops a.tmps j = none := by
          unfold yielded
          rw [ht]
          simp only [Option.bind_some, hv, hv']
        rw [hy]
        exact .inr ⟨rfl, h⟩
      · exact h.elim
    · exact h.elim

def GoodOps (C : Ctx) (ops : List Oper) : Prop := ∀ o, o ∈ ops → Good C o
theorem wpOps_sound {ops : Array Oper} {K : (Nat → AV) → Prop} {Q : Exit → Act → World → Prop} (hQ : ∀ a w, Post C K a w → Q .normal a w) : ∀ (l : List Oper) {a : Act} {w : World} {H : Imm} {γ : Nat → List Nat} {S : Nat → AV},
    GoodOps C l → a.defers = [] → Rel C H γ S a.tmps w → awpOps P ops K l S → wpList P ops Q l a w
  | [], a, w, H, γ, S, _, hdf, R, h => hQ a w ⟨hdf, S, H, γ, h, R⟩
  | o :: l, a, w, H, γ, S, hg, hdf, R, h => by
    have hgo : Good C o := hg o (by simp)
    have hgl : GoodOps C l := fun x hx => hg x (by simp [hx])
    unfold wpList
    rcases guard_ok R h with ⟨hw, h⟩ | ⟨hw, h⟩
    · rw [hw, if_pos rfl]
      refine .inl ?_
      refine Oper.wp_mono ?_ (op_sound (Q := Q) hdf hgo R h)
      rintro a' w' ⟨hdf', S', H', γ', hK, R'⟩
      exact wpOps_sound hQ l hgl hdf' R' hK
    · rw [hw, if_neg (by simp)]
      unfold skipK at h
      unfold Act.put
      cases hd : o.dst with
      | none =>
        rw [hd] at h
        exact wpOps_sound hQ l hgl hdf R h
      | some d =>
        rw [hd] at h
        obtain ⟨h1, h2⟩ := hgo d hd
        exact wpOps_sound hQ l hgl hdf (R.put_pers (by rw [R.sz]; exact h1) h2 (undef_V H)) h
end
end Go.Proofs.YtcmaledchnhccaaGreatDoor

/-! The abstract meaning of code, and that the model keeps it; from a function's body to its contract. No condition. -/
namespace Go.Proofs.YtcmaledchnhccaaGreatDoor
open Go Go.RowKit

abbrev AQ := Exit → (Nat → AV) → Prop
/-- Whatever order the region's operations are carried out in. -/
def DrawP (P : Program) (ops : Array Oper) (S : Nat → AV) (K : (Nat → AV) → Prop) : Prop :=
  ∀ (C : Ctx) (H : Imm) (γ : Nat → List Nat) (a : Act) (w : World) (Q : Exit → Act → World → Prop) (id : Nat), GoodOps C ops.toList → a.defers = [] → Rel C H γ S a.tmps w → (∀ a w, Post C K a w → Q .normal a w) → (Code.region id ops true).wp P Q a w

def awp (P : Program) : Code → AQ → (Nat → AV) → Prop
  | .skip, Q, S => Q .normal S
  | .region _ ops false, Q, S => awpOps P ops (Q .normal) ops.toList S
  | .region _ ops true, Q, S => DrawP P ops S (Q .normal)
  | .seq x y, Q, S => awp P x (fun e S' => match e with
    | .normal => awp P y Q S'
    | e => Q e S') S
  | .cond c x y, Q, S => (match evA S c with
    | .bool t => (t = true → awp P x Q S) ∧ (t = false → awp P y Q S)
    | _ => False)
  | .block id c, Q, S => awp P c (fun e S' => match e with
    | .exit id' => if id' = id then Q .normal S' else Q (.exit id') S'
    | e => Q e S') S
  | .loop c, Q, S => ∃ (I : (Nat → AV) → Prop) (m : (Nat → AV) → Nat), I S ∧ ∀ S1, I S1 → awp P c (fun e S2 => match e with
    | .normal => I S2 ∧ m S2 < m S1
    | e => Q e S2) S1
  | .exit id, Q, S => Q (.exit id) S
  | .label _, Q, S => Q .normal S
  | .ret, Q, S => Q .ret S
  | _, _, _ => False

def GoodC (C : Ctx) : Code → Prop
  | .region _ ops _ => GoodOps C ops.toList
  | .seq x y | .cond _ x y => GoodC C x ∧ GoodC C y
  | .block _ c | .loop c | .scope c => GoodC C c
  | _ => True

/-- what holds where code is left -/
def PostQ (C : Ctx) (Q : AQ) : Exit → Act → World → Prop := fun e a w => Post C (Q e) a w

section
variable {C : Ctx} {P : Program}

theorem awp_sound : ∀ (c : Code) {Q : AQ} {S : Nat → AV} {a : Act} {w : World} {H : Imm} {γ : Nat → List Nat}, GoodC C c → a.defers = [] → Rel C H γ S a.tmps w → awp P c Q S → c.wp P (PostQ C Q) a w := by
  intro c
  induction c with
  | skip => intro Q S a w H γ hg hdf R h; exact wp_skip ⟨hdf, S, H, γ, h, R⟩
  | region id ops draw =>
    intro Q S a w H γ hg hdf R h
    cases draw with
    | false => exact wp_region_list (wpOps_sound (fun a w h => h) _ hg hdf R h)
    | true => exact h C H γ a w _ id hg hdf R (fun a w h => h)
  | seq x y ihx ihy =>
    intro Q S a w H γ hg hdf R h
    refine wp_seq (wp_mono (ihx hg.1 hdf R h) ?_)
    rintro e a' w' ⟨hdf', S', H', γ', hQ, R'⟩
    cases e with
    | normal => exact ihy hg.2 hdf' R' hQ
    | _ => exact ⟨hdf', S', H', γ', hQ, R'⟩
  | cond c x y ihx ihy =>
    intro Q S a w H γ hg hdf R h
    simp only [awp] at h
    split at h
    · rename_i t ht
      have hv := evA_ok R c
      rw [ht] at hv
      have hc : a.eval c = .bool t := V_bool hv
      exact wp_cond_split hc (fun h1 => ihx hg.1 hdf R (h.1 h1)) (fun h1 => ihy hg.2 hdf R (h.2 h1))
    · exact h.elim
  | block id c ih =>
    intro Q S a w H γ hg hdf R h
    refine wp_block (wp_mono (ih hg hdf R h) ?_)
    rintro e a' w' ⟨hdf', S', H', γ', hQ, R'⟩
    cases e with
    | exit id' =>
      simp only at hQ
      simp only [Exit.inBlock]
      split at hQ
      · rename_i hid
        rw [if_pos hid]
        exact ⟨hdf', S', H', γ', hQ, R'⟩
      · rename_i hid
        rw [if_neg hid]
        exact ⟨hdf', S', H', γ', hQ, R'⟩
    | _ => exact ⟨hdf', S', H', γ', hQ, R'⟩
  | loop c ih =>
    intro Q S a w H γ hg hdf R h
    obtain ⟨I, m, hI, hr⟩ := h
    intro b k cs
    have key : ∀ n (S : Nat → AV) (a : Act) (w : World) (H : Imm) (γ : Nat → List Nat), m S = n → I S → a.defers = [] → Rel C H γ S a.tmps w →
        ∃ e a' w', PostQ C Q e a' w' ∧ Arrives P (lone (b.at a (.code c :: .inLoop c :: k)) cs w) b k cs e a' w' := by
      intro n
      induction n using Nat.strongRecOn with
      | _ n ihn =>
        intro S a w H γ hn hI hdf R
        obtain ⟨e, a₁, w₁, ⟨hdf₁, S₁, H₁, γ₁, hq, R₁⟩, harr⟩ := ih hg hdf R (hr S hI) b (.inLoop c :: k) cs
        cases e with
        | normal =>
          obtain ⟨hI₁, hlt⟩ := hq
          obtain ⟨e₂, a₂, w₂, hq₂, harr₂⟩ := ihn (m S₁) (hn ▸ hlt) S₁ a₁ w₁ H₁ γ₁ rfl hI₁ hdf₁ R₁
          exact ⟨e₂, a₂, w₂, hq₂, .of_steps (Steps.trans harr (.one step_inLoop)) harr₂⟩
        | exit id => exact ⟨_, a₁, w₁, ⟨hdf₁, S₁, H₁, γ₁, hq, R₁⟩, .pass (x := .inLoop c) rfl (fun _ _ => .inl (by simp)) harr⟩
        | goto l => exact ⟨_, a₁, w₁, ⟨hdf₁, S₁, H₁, γ₁, hq, R₁⟩, .pass (x := .inLoop c) rfl (fun _ _ => .inl (by simp)) harr⟩
        | ret => exact ⟨_, a₁, w₁, ⟨hdf₁, S₁, H₁, γ₁, hq, R₁⟩, .pass (x := .inLoop c) rfl (fun _ _ => .inl (by simp)) harr⟩
        | panic ch => exact ⟨_, a₁, w₁, ⟨hdf₁, S₁, H₁, γ₁, hq, R₁⟩, .pass (x := .inLoop c) rfl (fun _ _ => .inl (by simp)) harr⟩
        | outgrown => exact ⟨_, a₁, w₁, ⟨hdf₁, S₁, H₁, γ₁, hq, R₁⟩, .pass (x := .inLoop c) rfl (fun _ _ => .inl (by simp)) harr⟩
    obtain ⟨e, a', w', hq, harr⟩ := key _ S a w H γ rfl hI hdf R
    exact ⟨e, a', w', hq, .of_steps (.one step_loop) harr⟩
  | exit id => intro Q S a w H γ hg hdf R h; exact wp_exit ⟨hdf, S, H, γ, h, R⟩
  | label l => intro Q S a w H γ hg hdf R h; exact wp_label ⟨hdf, S, H, γ, h, R⟩
  | ret => intro Q S a w H γ hg hdf R h; exact wp_ret ⟨hdf, S, H, γ, h, R⟩
  | rangeFunc f ps asg body _ih => intro Q S a w H γ hg hdf R h; exact h.elim
  | scope c _ih => intro Q S a w H γ hg hdf R h; exact h.elim
  | goto l => intro Q S a w H γ hg hdf R h; exact h.elim
  | refuse why => intro Q S a w H γ hg hdf R h; exact h.elim
end
end Go.Proofs.YtcmaledchnhccaaGreatDoor

/-! From a function's body to its contract. No condition. -/
namespace Go.Proofs.YtcmaledchnhccaaGreatDoor
open Go Go.RowKit

/-- what a result variable hands back: an owner moves out, the rest is handed on for ever -/
def retV (P : Program) (S : Nat → AV) : ResultVar → ((Nat → AV) → AV → Prop) → Prop
  | .tmp t, K => (match S t with
    | .ow e s es => K (put S t .junk) (.ow e s es)
    | .bx e s es => K (put S t .junk) (.bx e s es)
    | .op r => K (put S t .junk) (.op r)
    | .rf k => K (put S k .junk) (S k)
    | x => pst S x K)
  | .cell a T, K => aLoad P S T (evA S (.tmp a)) fun y => K S y
/-- of several each is handed on for ever -/
def retW (P : Program) (S : Nat → AV) : ResultVar → ((Nat → AV) → AV → Prop) → Prop
  | .tmp t, K => pst S (evA S (.tmp t)) K
  | .cell a T, K => aLoad P S T (evA S (.tmp a)) fun y => K S y
def retL (P : Program) : (Nat → AV) → List ResultVar → ((Nat → AV) → List AV → Prop) → Prop
  | S, [], K => K S []
  | S, x :: xs, K => retW P S x fun S' y => retL P S' xs fun S'' ys => K S'' (y :: ys)
def retQ (P : Program) (rs : List ResultVar) (S : Nat → AV) (K : (Nat → AV) → AV → Prop) : Prop :=
  match rs with
  | [x] => retV P S x K
  | l => retL P S l fun S' ys => K S' (.tup ys)

section
variable {C : Ctx} {H : Imm} {γ : Nat → List Nat} {S : Nat → AV} {tmps : Array Value} {w : World} {P : Program}

def readVar (tmps : Array Value) : ResultVar → Sem Value
  | .tmp t => pure (tmps.getD t undef)
  | .cell a t => do loadVar t (← asAddr (tmps.getD a undef))

theorem evA_ok' (R : Rel C H γ S tmps w) (t : Nat) : AOK H γ S tmps (evA S (.tmp t)) (tmps.getD t undef) :=
  evA_ok (a := { tmps := tmps, defers := [] }) R (.tmp t)

theorem run_readcell (R : Rel C H γ S tmps w) {T : TypeId} {x : AV} {v : Value} {K : AV → Prop} (hx : AOK H γ S tmps x v) (h : aLoad P S T x K) :
    ∃ z u, (do loadVar T (← asAddr v) : Sem Value).run P w = .ok u w ∧ V H z u ∧ K z := by
  obtain ⟨z, u, hr, hv, hK⟩ := run_load R hx h
  refine ⟨z, u, ?_, hv, hK⟩
  unfold aLoad at h
  split at h
  · rename_i es i o d hp hd
    have hne : es ≠ [] := by
      rintro rfl
      split at h
      · obtain ⟨e, he, _⟩ := h; simp at he
      · obtain ⟨e, c, he, _⟩ := h; simp at he
    obtain ⟨g, off, s, cur, T', fr, rfl, hh, hfit, hr'⟩ := ptr_ok R hx hp hne
    exact hr
  · exact h.elim

/-- one result's fate -/
structure Out (C : Ctx) (H : Imm) (γ : Nat → List Nat) (tmps : Array Value) (w : World) (v : Value) (S' : Nat → AV) (H' : Imm) (γ' : Nat → List Nat) (r : AV) (bs : List Nat) : Prop where
  le : H.le H'
  rel : Rel C H' γ' S' tmps w
  held : Held H' w bs r v
  rref : r.isRef = false
  rno : r.owner = false → bs = []
  own : ∀ g, g ∈ bs → H' g = none ∧ g < w.heap.size ∧ (C.w0.heap.size ≤ g ∨ g ∈ C.E)
  dis : ∀ i g, g ∈ γ' i → g ∉ bs

theorem Out.moved (R : Rel C H γ S tmps w) {k : Nat} {v : Value} (hv : tmps[k]? = some v) (ho : (S k).owner = true) : Out C H γ tmps w v (put S k .junk) H (updN γ k []) (S k) (γ k) where
  le := Imm.le_refl _
  rel := R.drop k
  held := by
    obtain ⟨v', hv', hh⟩ := R.owner_val ho
    rw [hv] at hv'; cases hv'; exact hh
  rref := by cases h : S k <;> rw [h] at ho <;> first | rfl | cases ho
  rno := by intro h; rw [ho] at h; cases h
  own := R.own k
  dis := by
    intro i g hg hg'
    by_cases h : i = k
    · simp [updN, h] at hg
    · simp only [updN, h, if_false] at hg; exact h (R.disj i k g hg hg')

theorem V.rref {H : Imm} {x : AV} {v : Value} (h : V H x v) : x.isRef = false := by cases h <;> rfl
theorem V.nowner {H : Imm} {x : AV} {v : Value} (h : V H x v) : x.owner = false := by cases h <;> rfl

theorem Out.of_V {S' : Nat → AV} {H' : Imm} {γ' : Nat → List Nat} {y : AV} {v : Value} (hle : H.le H') (R : Rel C H' γ' S' tmps w) (hv : V H' y v) : Out C H γ tmps w v S' H' γ' y [] :=
  { le := hle, rel := R, held := Held.of_V hv, rref := hv.rref, rno := fun _ => rfl, own := fun g hg => absurd hg (by simp), dis := fun i g _ => by simp }

theorem retV_ok (R : Rel C H γ S tmps w) {x : ResultVar} {K : (Nat → AV) → AV → Prop} (h : retV P S x K) :
    ∃ v S' H' γ' r bs, (readVar tmps x).run P w = .ok v w ∧ K S' r ∧ Out C H γ tmps w v S' H' γ' r bs := by
  cases x with
  | tmp t =>
    have own : (S t).owner = true → K (put S t .junk) (S t) → ∃ v S' H' γ' r bs, (readVar tmps (.tmp t)).run P w = .ok v w ∧ K S' r ∧ Out C H γ tmps w v S' H' γ' r bs := by
      intro ho hK
      obtain ⟨v, hv, _⟩ := R.owner_val ho
      exact ⟨v, _, _, _, _, _, by simp [readVar, hv, Array.getD_eq_getD_getElem?], hK, Out.moved R hv ho⟩
    simp only [retV] at h
    split at h
    · rename_i e s es hS; exact own (by rw [hS]; rfl) (by rw [hS]; exact h)
    · rename_i e s es hS; exact own (by rw [hS]; rfl) (by rw [hS]; exact h)
    · rename_i r hS; exact own (by rw [hS]; rfl) (by rw [hS]; exact h)
    · rename_i k hS
      rcases Nat.lt_or_ge t tmps.size with ht | ht
      · have hsl := R.slot t tmps[t] (Array.getElem?_eq_getElem ht)
        unfold SOK at hsl
        rw [hS] at hsl
        exact ⟨tmps[t], _, _, _, _, _, by simp [readVar, ht, Array.getD_eq_getD_getElem?], h, Out.moved R hsl.2 hsl.1⟩
      · rw [R.out t ht] at hS; cases hS
    · rename_i h1 h2 h3 h4
      have hx : AOK H γ S tmps (S t) (tmps.getD t undef) := by
        have := evA_ok' R t
        simp only [evA] at this
        cases hS : S t <;> rw [hS] at this <;> first
          | exact this
          | exact absurd hS (h1 _ _ _)
          | exact absurd hS (h2 _ _ _)
          | exact absurd hS (h3 _)
          | exact absurd hS (h4 _)
      obtain ⟨S', H', γ', y, hK, R', hv⟩ := pst_ok' R hx h
      exact ⟨_, S', H', γ', y, [], rfl, hK.2, Out.of_V hK.1 R' hv⟩
  | cell a T =>
    obtain ⟨z, u, hr, hv, hK⟩ := run_readcell R (evA_ok' R a) h
    exact ⟨u, S, H, γ, z, [], hr, hK, Out.of_V (Imm.le_refl _) R hv⟩

theorem retW_ok (R : Rel C H γ S tmps w) {x : ResultVar} {K : (Nat → AV) → AV → Prop} (h : retW P S x K) :
    ∃ v S' H' γ' y, (readVar tmps x).run P w = .ok v w ∧ K S' y ∧ H.le H' ∧ Rel C H' γ' S' tmps w ∧ V H' y v := by
  cases x with
  | tmp t =>
    obtain ⟨S', H', γ', y, hK, R', hv⟩ := pst_ok' R (evA_ok' R t) h
    exact ⟨_, S', H', γ', y, rfl, hK.2, hK.1, R', hv⟩
  | cell a T =>
    obtain ⟨z, u, hr, hv, hK⟩ := run_readcell R (evA_ok' R a) h
    exact ⟨u, S, H, γ, z, hr, hK, Imm.le_refl _, R, hv⟩

theorem retL_ok (tmps : Array Value) : ∀ (xs : List ResultVar) {H : Imm} {γ : Nat → List Nat} {S : Nat → AV} {K : (Nat → AV) → List AV → Prop}, Rel C H γ S tmps w → retL P S xs K →
    ∃ vs S' H' γ' ys, (xs.mapM (readVar tmps)).run P w = .ok vs w ∧ K S' ys ∧ H.le H' ∧ Rel C H' γ' S' tmps w ∧ (vs.length = ys.length ∧ vs.length = xs.length) ∧ ∀ (j : Nat) (y : AV), ys[j]? = some y → ∃ v, vs[j]? = some v ∧ V H' y v
  | [], H, γ, S, K, R, h => ⟨[], S, H, γ, [], rfl, h, Imm.le_refl _, R, ⟨rfl, rfl⟩, by simp⟩
  | x :: xs, H, γ, S, K, R, h => by
    obtain ⟨v, S1, H1, γ1, y, hr, hK, hle, R1, hv⟩ := retW_ok R h
    obtain ⟨vs, S2, H2, γ2, ys, hr2, hK2, hle2, R2, hn, hvs⟩ := retL_ok tmps xs R1 hK
    refine ⟨v :: vs, S2, H2, γ2, y :: ys, ?_, hK2, Imm.le_trans hle hle2, R2, by simp [hn.1, ← hn.2], ?_⟩
    · rw [List.mapM_cons]
      rw [run_bind_ok hr, run_bind_ok hr2]
      rfl
    · intro j y' hy
      cases j with
      | zero => simp at hy; subst hy; exact ⟨v, rfl, hv.mono hle2⟩
      | succ j => simp at hy; simpa using hvs j y' hy

theorem run_results_list (fn : Func) {vs : List Value} (h : (fn.results.toList.mapM (readVar tmps)).run P w = .ok vs w) :
    (results fn tmps).run P w = .ok (if _ : vs.toArray.size = 1 then vs.toArray[0] else .tuple vs.toArray) w := by
  have h2 : (fn.results.mapM (readVar tmps) : Sem (Array Value)).run P w = .ok vs.toArray w := by
    rw [Array.mapM_eq_mapM_toList]
    show ((fn.results.toList.mapM (readVar tmps) >>= fun l => pure l.toArray : Sem (Array Value))).run P w = _
    rw [run_bind_ok h]; rfl
  have h3 : results fn tmps = (fn.results.mapM (readVar tmps) >>= fun vs => pure (if h : vs.size = 1 then vs[0] else .tuple vs)) := by
    unfold results
    congr 1
  rw [h3, run_bind_ok h2]
  rfl

theorem retQ_ok (R : Rel C H γ S tmps w) (fn : Func) {K : (Nat → AV) → AV → Prop} (h : retQ P fn.results.toList S K) :
    ∃ v S' H' γ' r bs, (results fn tmps).run P w = .ok v w ∧ K S' r ∧ Out C H γ tmps w v S' H' γ' r bs := by
  unfold retQ at h
  split at h
  · rename_i x hx
    obtain ⟨v, S', H', γ', r, bs, hr, hK, ho⟩ := retV_ok R h
    refine ⟨v, S', H', γ', r, bs, ?_, hK, ho⟩
    have := run_results_list (tmps := tmps) (P := P) (w := w) fn (vs := [v]) (by
      rw [hx, List.mapM_cons, run_bind_ok hr]; rfl)
    exact this
  · rename_i l hl
    obtain ⟨vs, S', H', γ', ys, hr, hK, hle, R', hn, hvs⟩ := retL_ok tmps _ R h
    have hne : vs.length ≠ 1 := by
      intro h1
      have h2 := hn.2
      rw [h1] at h2
      match hq : fn.results.toList, h2.symm with
      | [x], _ => exact hl x hq
    refine ⟨_, S', H', γ', _, [], run_results_list fn hr, hK, Out.of_V hle R' ?_⟩
    rw [dif_neg (by simpa using hne)]
    exact V_tup_iff.2 ⟨_, rfl, by simp [hn.1], fun j y hy => by simpa using hvs j y hy⟩
end

/-! ### a function's contract -/
def inS (args : List AV) : Nat → AV := fun i => args.getD i .junk
/-- what was lent, when the function is left -/
def outAt (S : Nat → AV) (j : Nat) : AV := if (S j).owner then S j else .junk
def outsOf (n : Nat) (kp : List Nat) (S : Nat → AV) : List AV := if kp.isEmpty then [] else (List.range n).map fun j => if kp.contains j then outAt S j else .junk
/-- no parameter that is lent is written over -/
def goodOp (n : Nat) (kp : List Nat) (o : Oper) : Bool := match o.dst with
  | none => true
  | some d => d < n && !kp.contains d
def goodB (n : Nat) (kp : List Nat) : Code → Bool
  | .region _ ops _ => ops.toList.all (goodOp n kp)
  | .seq x y | .cond _ x y => goodB n kp x && goodB n kp y
  | .block _ c | .loop c | .scope c => goodB n kp c
  | _ => true
theorem goodC_of {C : Ctx} {n : Nat} {kp : List Nat} (hn : n ≤ C.n) (hk : C.Kp = kp) : ∀ (c : Code), goodB n kp c = true → GoodC C c := by
  have hop : ∀ ops : Array Oper, ops.toList.all (goodOp n kp) = true → GoodOps C ops.toList := by
    intro ops h o ho d hd
    have := List.all_eq_true.1 h o ho
    simp only [goodOp, hd, Bool.and_eq_true, decide_eq_true_eq, Bool.not_eq_true'] at this
    refine ⟨Nat.lt_of_lt_of_le this.1 hn, ?_⟩
    rw [hk]
    intro hm
    have h2 := this.2
    rw [List.contains_iff_mem.2 hm] at h2
    cases h2
  intro c
  induction c with
  | region id ops d => intro h; exact hop ops h
  | seq x y ihx ihy => intro h; simp only [goodB, Bool.and_eq_true] at h; exact ⟨ihx h.1, ihy h.2⟩
  | cond c x y ihx ihy => intro h; simp only [goodB, Bool.and_eq_true] at h; exact ⟨ihx h.1, ihy h.2⟩
  | block id c ih => intro h; exact ih h
  | loop c ih => intro h; exact ih h
  | scope c ih => intro h; exact ih h
  | _ => intro _; trivial

/-- what is to be shown at a function's end -/
def endQ (P : Program) (fn : Func) (n : Nat) (kp : List Nat) (R : AV → List AV → Prop) : AQ := fun e S => match e with
  | .normal => retQ P fn.results.toList S fun S' r => R r (outsOf n kp S')
  | .ret => retQ P fn.results.toList S fun S' r => R r (outsOf n kp S')
  | _ => False

theorem outsOf_getD {n : Nat} {kp : List Nat} {S : Nat → AV} {i : Nat} : (outsOf n kp S).getD i .junk = if i < n ∧ kp.contains i = true then outAt S i else .junk := by
  unfold outsOf
  cases kp with
  | nil => simp
  | cons k kp =>
    rw [if_neg (by simp)]
    by_cases h : i < n
    · simp [h, List.getD_eq_getElem?_getD]
    · rw [if_neg (by simp [h]), List.getD_eq_getElem?_getD, List.getElem?_eq_none (by simp; omega)]; rfl

theorem AC.intro {P : Program} {f : FuncId} {fn : Func} {c : Code} {args : List AV} {R : AV → List AV → Prop} (kp : List Nat) (hf : P.funcs[f]? = some fn) (hname : (fn.name == "runtime.NumGoroutine") = false) (hb : fn.body = some c)
    (hg : goodB fn.ntmps kp c = true) (h : awp P c (endQ P fn args.length kp R) (inS args)) : AC P f args R := by
  refine ⟨enters_of hf hname hb, ?_⟩
  intro H w vs γa hvs hargs hγ himm hown hdis
  refine calls_of_wp hf hb ?_
  let tmps : Array Value := vs ++ Array.replicate (fn.ntmps - vs.size) undef
  have hat : ∀ (i : Nat) (v : Value), vs[i]? = some v → tmps[i]? = some v := by
    intro i v hv
    have hi := (Array.getElem?_eq_some_iff.1 hv).1
    simp only [tmps]
    rw [Array.getElem?_append_left hi]; exact hv
  let C : Ctx := ⟨w, (List.range args.length).flatMap γa, H, kp, tmps, tmps.size⟩
  have hE : ∀ i g, g ∈ γa i → g ∈ C.E := by
    intro i g hg
    have hi : i < args.length := by
      rcases Nat.lt_or_ge i args.length with h | h
      · exact h
      · rw [hγ i h] at hg; cases hg
    exact List.mem_flatMap.2 ⟨i, List.mem_range.2 hi, hg⟩
  have hE' : ∀ g, g ∈ C.E → ∃ i, g ∈ γa i := by
    intro g hg
    obtain ⟨i, _, h⟩ := List.mem_flatMap.1 hg
    exact ⟨i, h⟩
  have hn : fn.ntmps ≤ C.n := by simp only [C, tmps, Array.size_append, Array.size_replicate]; omega
  have R0 : Rel C H γa (inS args) tmps w :=
    { slot := by
        intro i v hv
        unfold inS
        rcases Nat.lt_or_ge i args.length with hi | hi
        · have hx : args[i]? = some args[i] := List.getElem?_eq_getElem hi
          have hvi : vs[i]? = some v := by
            rw [← hv]; simp only [tmps]
            rw [Array.getElem?_append_left (by omega)]
          have hh := (hargs i _ v hx hvi).1
          have hgd : args.getD i .junk = args[i] := by rw [List.getD_eq_getElem?_getD, hx]; rfl
          have : (inS args i).isRef = false := by
            unfold inS; rw [hgd]
            cases hq : args[i] <;> rw [hq] at hh <;> first | rfl | exact hh.elim
          refine (SOK_of_held (S := inS args) this).2 ?_
          show Held H w (γa i) (args.getD i .junk) v
          rw [hgd]; exact hh
        · have : args.getD i .junk = .junk := by rw [List.getD_eq_getElem?_getD, List.getElem?_eq_none hi]; rfl
          unfold SOK
          simp only [this]
          trivial
      out := by
        intro i hi
        have : args.length ≤ i := by simp only [tmps, Array.size_append, Array.size_replicate] at hi; omega
        show args.getD i .junk = .junk
        rw [List.getD_eq_getElem?_getD, List.getElem?_eq_none this]; rfl
      imm := himm
      nown := by
        intro i hi
        rcases Nat.lt_or_ge i args.length with h' | h'
        · have hx : args[i]? = some args[i] := List.getElem?_eq_getElem h'
          have hgd : inS args i = args[i] := by unfold inS; rw [List.getD_eq_getElem?_getD, hx]; rfl
          exact (hargs i _ _ hx (Array.getElem?_eq_getElem (by omega : i < vs.size))).2 (hgd ▸ hi)
        · exact hγ i h'
      own := fun i g hg => ⟨(hown i g hg).1, (hown i g hg).2, .inr (hE i g hg)⟩
      disj := hdis
      le0 := Imm.le_refl _
      new := fun g o h => .inl h
      fr := Fr.refl _ _
      kept := fun j _ => rfl
      sz := rfl }
  have fin : ∀ (a' : Act) (w' : World) (S : Nat → AV) (H' : Imm) (γ' : Nat → List Nat), retQ P fn.results.toList S (fun S' r => R r (outsOf args.length kp S')) → Rel C H' γ' S a'.tmps w' →
      ∃ v, (results fn a'.tmps).run P w' = .ok v w' ∧ ∃ v' r outs H' γr γo, Ending.returned v = .returned v' ∧ R r outs ∧ Ret args.length H w vs γa w' v' r outs H' γr γo := by
    intro a' w' S H' γ' hq R'
    obtain ⟨v, S2, H2, γ2, r, bs, hr, hR, O⟩ := retQ_ok R' fn hq
    let γo : Nat → List Nat := fun i => if i < args.length ∧ kp.contains i = true then γ2 i else []
    have hsub : ∀ i g, g ∈ γo i → g ∈ γ2 i := by
      intro i g hg
      simp only [γo] at hg
      split at hg
      · exact hg
      · cases hg
    have tr : ∀ g, (C.w0.heap.size ≤ g ∨ g ∈ C.E) → (w.heap.size ≤ g ∨ ∃ i, g ∈ γa i) := fun g h => h.imp id (hE' g)
    refine ⟨v, hr, v, r, outsOf args.length kp S2, H2, bs, γo, rfl, hR, ?_⟩
    exact
    { le := O.rel.le0
      imm := O.rel.imm
      fr := O.rel.fr
      res := O.held
      rref := O.rref
      rno := O.rno
      out := by
        intro i u hu
        rw [outsOf_getD]
        by_cases h : i < args.length ∧ kp.contains i = true
        · simp only [h, γo, and_self, if_true]
          unfold outAt
          cases ho : (S2 i).owner with
          | false => exact ⟨trivial, rfl, fun _ => O.rel.nown i ho⟩
          | true =>
            simp only [if_true]
            obtain ⟨v', hv', hh⟩ := O.rel.owner_val ho
            have hk := O.rel.kept i (by simpa [C] using h.2)
            rw [hv'] at hk
            have : tmps[i]? = some u := hat i u hu
            rw [show C.vs[i]? = tmps[i]? from rfl, this] at hk
            cases hk
            have hrf : (S2 i).isRef = false := by cases hq : S2 i <;> rw [hq] at ho <;> first | rfl | cases ho
            exact ⟨hh, hrf, fun h => by rw [ho] at h; cases h⟩
        · simp only [γo]
          rw [if_neg h, if_neg h]
          exact ⟨trivial, rfl, fun _ => rfl⟩
      rown := fun g hg => ⟨(O.own g hg).1, (O.own g hg).2.1, tr g (O.own g hg).2.2⟩
      oown := fun i g hg => ⟨(O.rel.own i g (hsub i g hg)).1, (O.rel.own i g (hsub i g hg)).2.1, tr g (O.rel.own i g (hsub i g hg)).2.2⟩
      rdis := fun i g hg => O.dis i g (hsub i g hg)
      odis := fun i j g hi hj => O.rel.disj i j g (hsub i g hi) (hsub j g hj)
      new := fun g o h => (O.rel.new g o h).imp id (tr g) }
  refine wp_mono (awp_sound c (C := C) (goodC_of hn rfl c hg) (a := { tmps := tmps, defers := [] }) rfl R0 h) ?_
  rintro e a' w' ⟨hdf, S, H', γ', hq, R'⟩
  cases e <;> first
    | exact ⟨hdf, fin a' w' S H' γ' hq R'⟩
    | exact hq.elim
end Go.Proofs.YtcmaledchnhccaaGreatDoor
