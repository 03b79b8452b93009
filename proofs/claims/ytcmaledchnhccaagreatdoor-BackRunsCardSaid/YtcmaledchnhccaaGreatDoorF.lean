/- The executor: regions, code, calls, drawn regions, tables, the form for the kernel. No condition. -/
import Derived.Test.YtcmaledchnhccaaGreatDoorE
import Derived.Scope
import Derived.Lib.MakeNoZero
/-! That the executor follows the model: steps, regions in the text's order. No condition. -/
namespace Go.Proofs.YtcmaledchnhccaaGreatDoor
open Go Go.RowKit

/-- where a frame stands -/
def Inv (P : Program) (w0 : World) (φ0 : Phi) (n : Nat) (S : Tr XV) (M : Mem) (a : Act) (w : World) : Prop :=
  a.defers = [] ∧ a.tmps.size = n ∧ ∃ φ, φ0.le φ ∧ SR φ S a.tmps ∧ MR P φ w0 M w
/-- what a call has done -/
def Back (P : Program) (w0 : World) (φ : Phi) (r : XV) (M' : Mem) (v : Value) (w' : World) : Prop := ∃ φ', φ.le φ' ∧ VX φ' r v ∧ MR P φ' w0 M' w'
/-- a call, at one place -/
def CallAt (P : Program) (w0 : World) (φ : Phi) (f : FuncId) (vs : Array Value) (w : World) (r : XV) (M' : Mem) : Prop :=
  (Enters P f ∧ Calls P f vs w fun e w' => ∃ v, e = .returned v ∧ Back P w0 φ r M' v w') ∨ (∃ v w', (callFunc f vs).run P w = .ok (.value v) w' ∧ Back P w0 φ r M' v w')
def CallOK (P : Program) (w0 : World) (call : Caller) : Prop := ∀ f args M r M', call f args M = some (r, M') → ∀ φ w vs, MR P φ w0 M w → LX φ args vs → CallAt P w0 φ f vs w r M'

section
variable {P : Program} {φ φ0 : Phi} {w0 w w' : World} {M M' : Mem} {S S' : Tr XV} {Y : TYS} {n : Nat}

theorem SR.put {tmps : Array Value} {d : Nat} {x : XV} {v : Value} (hS : SR φ S tmps) (hd : d < tmps.size) (h1 : d + 1 < 1024) (hv : VX φ x v) : SR φ (S.set 10 d (some x)) (tmps.setIfInBounds d v) := by
  intro i y hi
  rw [Tr.get_set 10 S d _ i h1] at hi
  split at hi
  · rename_i he
    cases hi; subst he
    exact ⟨v, by simp [hd], hv⟩
  · rename_i he
    obtain ⟨u, hu, hx⟩ := hS i y hi
    exact ⟨u, by rw [Array.getElem?_setIfInBounds_ne (fun h => he h.symm)]; exact hu, hx⟩

theorem dput_ok {a : Act} {d : Option Nat} {x : XV} {v : Value} (h : dput n S d x = some S') (hd : a.defers = []) (hn : a.tmps.size = n) (hle : φ0.le φ) (hS : SR φ S a.tmps) (R : MR P φ w0 M w) (hv : VX φ x v) : Inv P w0 φ0 n S' M (a.put d v) w := by
  unfold dput at h
  unfold Act.put
  cases d with
  | none => cases h; exact ⟨hd, hn, φ, hle, hS, R⟩
  | some d =>
    simp only [sput] at h
    split at h
    · rename_i hc
      cases h
      exact ⟨hd, by simpa using hn, φ, hle, hS.put (by omega) hc.2 hv, R⟩
    · cases h

theorem undef_VX : VX φ (.tup []) undef := .tup (arr := #[]) rfl (fun j x c hx => by simp at hx)

theorem Did_step {a : Act} {o : Oper} {r : Option XV} {Q : Exit → Act → World → Prop} (h : Did P φ w0 (execOp a.eval o) w r M') (hd : a.defers = []) (hn : a.tmps.size = n) (hle : φ0.le φ) (hS : SR φ S a.tmps)
    (hp : dput n S o.dst (match r with | some x => x | none => .tup []) = some S') : o.wp P a w (fun a' w' => Inv P w0 φ0 n S' M' a' w') Q := by
  obtain ⟨φ', nx, w', hr, hle', R', hv⟩ := h
  unfold Oper.wp
  cases r with
  | some x =>
    obtain ⟨v, rfl, hx⟩ := hv
    rw [hr, Oper.upon_value]
    exact dput_ok hp hd hn (Phi.le_trans hle hle') (hS.mono hle') R' hx
  | none =>
    subst hv
    rw [hr, Oper.upon_skip]
    exact dput_ok hp hd hn (Phi.le_trans hle hle') (hS.mono hle') R' undef_VX

theorem LX.append' {xs ys : List XV} {us vs : Array Value} (h : LX φ xs us) (h' : LX φ ys vs) : LX φ (xs ++ ys) (us ++ vs) := by
  have := LX.append (us := us.toList) (vs := vs.toList) (by simpa using h) (by simpa using h')
  have e : us ++ vs = (us.toList ++ vs.toList).toArray := by apply Array.ext'; simp
  rw [e]; exact this

theorem xStep_ok {call : Caller} (hY : YOK2 P Y) (hC : CallOK P w0 call) {a : Act} {o : Oper} {Q : Exit → Act → World → Prop} (h : xStep Y call n o S M = some (S', M')) (I : Inv P w0 φ0 n S M a w) : o.wp P a w (fun a' w' => Inv P w0 φ0 n S' M' a' w') Q := by
  obtain ⟨hd, hn, φ, hle, hS, R⟩ := I
  -- what is no call
  have plain : (match xop Y S M o.op with
      | some (some v, M') => (match dput n S o.dst v with
        | some S' => some (S', M')
        | none => none)
      | some (none, M') => (match dput n S o.dst (.tup []) with
        | some S' => some (S', M')
        | none => none)
      | none => none) = some (S', M') → o.wp P a w (fun a' w' => Inv P w0 φ0 n S' M' a' w') Q := by
    intro h
    split at h
    · rename_i v M1 hx
      split at h
      · rename_i S1 hp
        cases h
        exact Did_step (xop_ok hY R hS hx) hd hn hle hS hp
      · cases h
    · rename_i M1 hx
      split at h
      · rename_i S1 hp
        cases h
        exact Did_step (xop_ok hY R hS hx) hd hn hle hS hp
      · cases h
    · cases h
  unfold xStep at h
  split at h
  · rename_i c ho
    split at h
    · rename_i fo hfo
      split at h
      · rename_i f caps xs hf hxs
        split at h
        · rename_i v M1 hc
          split at h
          · rename_i S1 hp
            cases h
            obtain ⟨arr, hev, hcaps⟩ := VX_fn (ev_ok hS hf)
            have hargs : LX φ (xs ++ caps) (c.args.map a.eval ++ arr) := LX.append' (by have := evs_ok hS _ hxs; simpa [← Array.toList_map] using this) hcaps
            rcases hC f (xs ++ caps) M v _ hc φ w _ R hargs with ⟨hen, hcall⟩ | ⟨u, w', hr, φ', hle', hv, R'⟩
            · unfold Oper.wp
              rw [run_callv ho hfo hev hen w, Oper.upon_enter]
              refine hcall.mono fun e w' ⟨u, he, φ', hle', hv, R'⟩ => ?_
              subst he
              exact dput_ok hp hd hn (Phi.le_trans hle hle') (hS.mono hle') R' hv
            · unfold Oper.wp
              have hrun : (execOp a.eval o).run P w = .ok (.value u) w' := by
                unfold execOp
                rw [ho]
                show ((resolve a.eval c o.type >>= fun d => invoke d.target d.args) : Sem Next).run P w = _
                have : (resolve a.eval c o.type).run P w = .ok { target := .fn (.func f) arr, args := #[] ++ c.args.map a.eval } w := by
                  unfold resolve
                  rw [hfo]
                  simp only [hev, Deferred.ofValue]
                  rfl
                rw [run_bind_ok this]
                show (callFunc f ((#[] ++ c.args.map a.eval) ++ arr)).run P w = _
                simpa using hr
              rw [hrun, Oper.upon_value]
              exact dput_ok hp hd hn (Phi.le_trans hle hle') (hS.mono hle') R' hv
          · cases h
        · cases h
      · cases h
    · refine plain ?_
      split at h
      · rename_i v M1 hx
        rw [hx]; exact h
      · cases h
  · exact plain h

theorem xWanted_ok {a : Act} {ops : Array Oper} {o : Oper} {b : Bool} (hS : SR φ S a.tmps) (h : xWanted ops S o = some b) : Region.wanted o (yielded ops a.tmps) = b := by
  unfold xWanted at h
  unfold Region.wanted
  split at h
  · rename_i hg; cases h; rw [hg]
  · rename_i j c hg
    rw [hg]
    simp only
    split at h
    · rename_i t ht
      split at h
      · rename_i d hd
        cases h
        obtain ⟨v, hv, hx⟩ := hS t _ hd
        have hy : yielded ops a.tmps j = some d := by
          unfold yielded
          rw [ht]
          simp only [Option.bind_some, hv, VX_bool hx]
        rw [hy]
        cases d <;> cases c <;> rfl
      · rename_i hd
        cases h
        obtain ⟨v, hv, hx⟩ := hS t _ hd
        obtain ⟨arr, rfl, hl⟩ := VX_tup hx
        have hy : yielded ops a.tmps j = none := by
          unfold yielded
          rw [ht]
          simp only [Option.bind_some, hv]
        rw [hy]
        rfl
      · cases h
    · cases h

theorem xOps_ok {call : Caller} (hY : YOK2 P Y) (hC : CallOK P w0 call) {ops : Array Oper} {Q : Exit → Act → World → Prop} : ∀ (l : List Oper) {S : Tr XV} {M : Mem} {a : Act} {w : World}, xOps Y call n ops l S M = some (S', M') → Inv P w0 φ0 n S M a w →
    (∀ a w, Inv P w0 φ0 n S' M' a w → Q .normal a w) → wpList P ops Q l a w
  | [], S, M, a, w, h, I, hQ => by cases h; exact hQ a w I
  | o :: l, S, M, a, w, h, I, hQ => by
    unfold xOps at h
    unfold wpList
    obtain ⟨hd, hn, φ, hle, hS, R⟩ := I
    split at h
    · rename_i hw
      rw [xWanted_ok hS hw, if_pos rfl]
      split at h
      · rename_i S1 M1 hs
        refine .inl ?_
        exact Oper.wp_mono (fun a' w' I' => xOps_ok hY hC l h I' hQ) (xStep_ok hY hC hs ⟨hd, hn, φ, hle, hS, R⟩)
      · cases h
    · rename_i hw
      rw [xWanted_ok hS hw, if_neg (by simp)]
      split at h
      · rename_i S1 hp
        exact xOps_ok hY hC l h (dput_ok hp hd hn hle hS R undef_VX) hQ
      · cases h
    · cases h
end
end Go.Proofs.YtcmaledchnhccaaGreatDoor

/-! That the executor follows the model: code, calls. No condition. -/
namespace Go.Proofs.YtcmaledchnhccaaGreatDoor
open Go Go.RowKit

/-- a region whose order is drawn does what the executor says -/
def DrawOK (P : Program) (w0 : World) (D : Caller → Nat → Array Oper → Tr XV → Mem → Option (Tr XV × Mem)) : Prop :=
  ∀ call, CallOK P w0 call → ∀ (n : Nat) (ops : Array Oper) (S : Tr XV) (M : Mem) (S' : Tr XV) (M' : Mem) (φ0 : Phi) (a : Act) (w : World) (id : Nat) (Q : Exit → Act → World → Prop), D call n ops S M = some (S', M') → Inv P w0 φ0 n S M a w →
    (∀ a w, Inv P w0 φ0 n S' M' a w → Q .normal a w) → (Code.region id ops true).wp P Q a w

/-- what a function without a body does -/
def ExtOK (P : Program) (f : FuncId) (k : XK) : Prop := ∀ (φ : Phi) (w0 w : World) (M M' : Mem) (args : List XV) (vs : Array Value) (r : XV), xExt k args M = some (r, M') → MR P φ w0 M w → LX φ args vs → CallAt P w0 φ f vs w r M'
/-- the table of functions is right -/
def FOK (P : Program) (F : FNS) : Prop := ∀ f fn, F f = some fn → match fn with
  | .go code n rs => ∃ fn0 : Func, P.funcs[f]? = some fn0 ∧ (fn0.name == "runtime.NumGoroutine") = false ∧ fn0.body = some code ∧ fn0.ntmps = n ∧ fn0.results.toList = rs
  | .ext k => ExtOK P f k

section
variable {P : Program} {φ φ0 : Phi} {w0 w w' : World} {M M' : Mem} {S S' : Tr XV} {Y : TYS} {F : FNS} {n : Nat}

theorem argS_get : ∀ (xs : List XV) (k : Nat) (S : Tr XV) (i : Nat), k + xs.length < 1023 → (argS k xs S).get i = if k ≤ i ∧ i < k + xs.length then xs[i - k]? else S.get i
  | [], k, S, i, h => by
    have : ¬ (k ≤ i ∧ i < k + ([] : List XV).length) := by simp only [List.length_nil]; omega
    rw [if_neg this]; rfl
  | x :: xs, k, S, i, h => by
    simp only [List.length_cons] at h ⊢
    unfold argS
    rw [argS_get xs (k + 1) _ i (by omega), Tr.get_set 10 S k _ i (by omega)]
    by_cases h1 : i = k
    · subst h1
      rw [if_neg (by omega), if_pos rfl, if_pos (by omega)]
      simp
    · by_cases h2 : k + 1 ≤ i ∧ i < k + 1 + xs.length
      · rw [if_pos h2, if_pos (by omega), show i - k = (i - (k + 1)) + 1 by omega, List.getElem?_cons_succ]
      · rw [if_neg h2, if_neg h1, if_neg (by omega)]

theorem xRes1_ok (hY : YOK2 P Y) (R : MR P φ w0 M w) {tmps : Array Value} (hS : SR φ S tmps) {x : ResultVar} {y : XV} (h : xRes1 Y S M x = some y) : ∃ v, (readVar tmps x).run P w = .ok v w ∧ VX φ y v := by
  cases x with
  | tmp t =>
    obtain ⟨v, hv, hx⟩ := hS t y h
    exact ⟨v, by simp [readVar, hv, Array.getD_eq_getD_getElem?], hx⟩
  | cell a T =>
    simp only [xRes1] at h
    split at h
    · rename_i x hx
      obtain ⟨v, hv, hvx⟩ := hS a x hx
      obtain ⟨ad, u, hp, hr, hu⟩ := xLoad_ok hY R hvx h
      refine ⟨u, ?_, hu⟩
      have hg : tmps.getD a undef = v := by simp [hv, Array.getD_eq_getD_getElem?]
      show ((asAddr (tmps.getD a undef) >>= fun ad => loadVar T ad) : Sem Value).run P w = _
      rw [hg, hp]
      exact (run_bind_ok (show (asAddr (.pointer (some ad))).run P w = .ok ad w from rfl)).trans hr
    · cases h
theorem xResL_ok (hY : YOK2 P Y) (R : MR P φ w0 M w) {tmps : Array Value} (hS : SR φ S tmps) : ∀ (rs : List ResultVar) {ys : List XV}, xResL Y S M rs = some ys → ∃ vs : List Value, (rs.mapM (readVar tmps)).run P w = .ok vs w ∧ LX φ ys vs.toArray
  | [], ys, h => by cases h; exact ⟨[], rfl, rfl, by simp⟩
  | x :: rs, ys, h => by
    unfold xResL at h
    split at h
    · rename_i y ys' hy hys
      cases h
      obtain ⟨v, hr, hv⟩ := xRes1_ok hY R hS hy
      obtain ⟨vs, hrs, hvs⟩ := xResL_ok hY R hS rs hys
      refine ⟨v :: vs, ?_, by have := hvs.1; simpa using this, fun j z c hz hc => ?_⟩
      · rw [List.mapM_cons, run_bind_ok hr, run_bind_ok hrs]; rfl
      · cases j with
        | zero => simp at hz hc; subst hz hc; exact hv
        | succ j => simp at hz hc; exact hvs.2 j z c hz (by simpa using hc)
    · cases h
theorem xRes_ok (hY : YOK2 P Y) (R : MR P φ w0 M w) {tmps : Array Value} (hS : SR φ S tmps) (fn : Func) {y : XV} (h : xRes Y S M fn.results.toList = some y) : ∃ v, (results fn tmps).run P w = .ok v w ∧ VX φ y v := by
  unfold xRes at h
  split at h
  · rename_i x hl
    cases h
    obtain ⟨vs, hr, hx⟩ := xResL_ok hY R hS _ hl
    have hn : vs.length = 1 := by have := hx.1; simpa using this
    match vs, hn with
    | [v], _ =>
      exact ⟨v, run_results_list fn hr, hx.2 0 y v rfl rfl⟩
  · rename_i l hne hl
    cases h
    obtain ⟨vs, hr, hx⟩ := xResL_ok hY R hS _ hl
    have hn : vs.length = l.length := by have := hx.1; simpa using this
    have h1 : vs.length ≠ 1 := by
      intro h1
      rw [hn] at h1
      match l, h1 with
      | [x], _ => exact hne x rfl
    refine ⟨_, run_results_list fn hr, ?_⟩
    rw [dif_neg (by simpa using h1)]
    exact .tup hx.1 hx.2
  · cases h

/-- what is so where code is left -/
def At (P : Program) (w0 : World) (φ0 : Phi) (n : Nat) (e : Exit) (S : Tr XV) (M : Mem) : Exit → Act → World → Prop := fun e' a w => e' = e ∧ Inv P w0 φ0 n S M a w

/-- from the loop's inside too -/
def Runs (P : Program) (c : Code) (Q : Exit → Act → World → Prop) (a : Act) (w : World) : Prop :=
  c.wp P Q a w ∧ ∀ b, c = .loop b → ∀ (b0 : Frame) (k : List Item) (cs : List Frame), ∃ e a' w', Q e a' w' ∧ Arrives P (lone (b0.at a (.code b :: .inLoop b :: k)) cs w) b0 k cs e a' w'
theorem Runs.of {P : Program} {c : Code} {Q : Exit → Act → World → Prop} {a : Act} {w : World} (hc : ∀ b, c ≠ .loop b) (h : c.wp P Q a w) : Runs P c Q a w := ⟨h, fun b hb => absurd hb (hc b)⟩
theorem Runs.loop {P : Program} {b : Code} {Q : Exit → Act → World → Prop} {a : Act} {w : World} (h : ∀ (b0 : Frame) (k : List Item) (cs : List Frame), ∃ e a' w', Q e a' w' ∧ Arrives P (lone (b0.at a (.code b :: .inLoop b :: k)) cs w) b0 k cs e a' w') : Runs P (.loop b) Q a w :=
  ⟨fun b0 k cs => let ⟨e, a', w', hq, harr⟩ := h b0 k cs; ⟨e, a', w', hq, .of_steps (.one step_loop) harr⟩, fun b' hb => by cases hb; exact h⟩

def RunOK (P : Program) (w0 : World) (run : Nat → Code → Tr XV → Mem → Option (Exit × Tr XV × Mem)) : Prop :=
  ∀ n c S M e S' M', run n c S M = some (e, S', M') → (∃ l, e = .goto l) = False ∧ ∀ φ0 a w, Inv P w0 φ0 n S M a w → Runs P c (At P w0 φ0 n e S' M') a w

theorem xCall_ok (hY : YOK2 P Y) (hF : FOK P F) {run : Nat → Code → Tr XV → Mem → Option (Exit × Tr XV × Mem)} (hR : RunOK P w0 run) : CallOK P w0 (xCall Y F run) := by
  intro f args M r M' h φ w vs R hargs
  unfold xCall at h
  split at h
  · rename_i code nt rs hf
    obtain ⟨fn0, hf0, hname, hb, hnt, hrs⟩ := hF f _ hf
    split at h
    · rename_i hsm
      have key : ∀ (e : Exit) (S : Tr XV) (M1 : Mem), run (max args.length nt) code (argS 0 args .nil) M = some (e, S, M1) → (e = .normal ∨ e = .ret) → (match xRes Y S M1 rs with
          | some v => some (v, M1)
          | none => none) = some (r, M') → CallAt P w0 φ f vs w r M' := by
        intro e S M1 hrun he hres
        split at hres
        · rename_i y hy
          cases hres
          refine .inl ⟨enters_of hf0 hname hb, calls_of_wp hf0 hb ?_⟩
          have hvs : vs.size = args.length := hargs.1
          have hI : Inv P w0 φ (max args.length nt) (argS 0 args .nil) M { tmps := vs ++ Array.replicate (fn0.ntmps - vs.size) undef, defers := [] } w := by
            refine ⟨rfl, ?_, φ, Phi.le_refl _, ?_, R⟩
            · simp only [Array.size_append, Array.size_replicate]; omega
            · intro i x hx
              rw [argS_get args 0 .nil i (by omega)] at hx
              split at hx
              · rename_i hi
                rw [Nat.sub_zero] at hx
                have hlt : i < vs.size := by omega
                refine ⟨vs[i], ?_, hargs.2 i x _ hx (Array.getElem?_eq_getElem hlt)⟩
                rw [Array.getElem?_append_left hlt]
                exact Array.getElem?_eq_getElem hlt
              · cases hx
          refine wp_mono ((hR _ _ _ _ _ _ _ hrun).2 φ _ w hI).1 ?_
          rintro e' a' w' ⟨rfl, hd, hn, φ', hle, hS, R'⟩
          rw [← hrs] at hy
          obtain ⟨v, hv, hx⟩ := xRes_ok hY R' hS fn0 hy
          rcases he with rfl | rfl
          · exact ⟨hd, v, hv, v, rfl, φ', hle, hx, R'⟩
          · exact ⟨hd, v, hv, v, rfl, φ', hle, hx, R'⟩
        · cases hres
      split at h
      · rename_i S M1 hrun; exact key _ _ _ hrun (.inl rfl) h
      · rename_i S M1 hrun; exact key _ _ _ hrun (.inr rfl) h
      · cases h
    · cases h
  · rename_i k hf
    exact hF f _ hf φ w0 w M M' args vs r h R hargs
  · cases h

theorem exec_ok (hY : YOK2 P Y) (hF : FOK P F) (hD : DrawOK P w0 (xDraw Y)) : ∀ fuel, RunOK P w0 (exec Y F fuel)
  | 0 => fun n c S M e S' M' h => by cases h
  | fuel + 1 => fun n c S M e S' M' h => by
    have ih := exec_ok hY hF hD fuel
    have hC := xCall_ok hY hF ih
    have ng : ∀ e : Exit, (∃ l, e = .goto l) = False ↔ ∀ l, e ≠ .goto l := fun e => by
      constructor
      · intro h l he
        have : ∃ l, e = .goto l := ⟨l, he⟩
        rw [h] at this; exact this
      · intro h; exact eq_false fun ⟨l, hl⟩ => h l hl
    unfold exec at h
    split at h
    · cases h
      exact ⟨(ng _).2 (fun l h => by cases h), fun φ0 a w I => .of (fun _ h => by cases h) (wp_skip ⟨rfl, I⟩)⟩
    · split at h
      · rename_i S1 M1 hx
        cases h
        exact ⟨(ng _).2 (fun l h => by cases h), fun φ0 a w I => .of (fun _ h => by cases h) (wp_region_list (xOps_ok hY hC _ hx I fun a w I' => ⟨rfl, I'⟩))⟩
      · cases h
    · split at h
      · rename_i S1 M1 hx
        cases h
        exact ⟨(ng _).2 (fun l h => by cases h), fun φ0 a w I => .of (fun _ h => by cases h) (hD _ hC n _ S M _ _ φ0 a w _ _ hx I fun a w I' => ⟨rfl, I'⟩)⟩
      · cases h
    · rename_i x y
      split at h
      · rename_i S1 M1 hx
        have h1 := ih _ _ _ _ _ _ _ hx
        have h2 := ih _ _ _ _ _ _ _ h
        refine ⟨h2.1, fun φ0 a w I => .of (fun _ h => by cases h) (wp_seq (wp_mono (h1.2 φ0 a w I).1 ?_))⟩
        rintro e' a' w' ⟨rfl, I'⟩
        exact (h2.2 φ0 a' w' I').1
      · rename_i hne
        have h1 := ih _ _ _ _ _ _ _ h
        refine ⟨h1.1, fun φ0 a w I => .of (fun _ h => by cases h) (wp_seq (wp_mono (h1.2 φ0 a w I).1 ?_))⟩
        rintro e' a' w' ⟨rfl, I'⟩
        cases e' with
        | normal => exact absurd h (hne _ _)
        | _ => exact ⟨rfl, I'⟩
    · rename_i t x y
      split at h
      · rename_i hev
        have h1 := ih _ _ _ _ _ _ _ h
        refine ⟨h1.1, fun φ0 a w I => ?_⟩
        obtain ⟨hd, hn, φ, hle, hS, R⟩ := I
        exact .of (fun _ h => by cases h) (wp_cond_split (VX_bool (ev_ok hS hev)) (fun _ => (h1.2 φ0 a w ⟨hd, hn, φ, hle, hS, R⟩).1) (fun h => by cases h))
      · rename_i hev
        have h1 := ih _ _ _ _ _ _ _ h
        refine ⟨h1.1, fun φ0 a w I => ?_⟩
        obtain ⟨hd, hn, φ, hle, hS, R⟩ := I
        exact .of (fun _ h => by cases h) (wp_cond_split (VX_bool (ev_ok hS hev)) (fun h => by cases h) (fun _ => (h1.2 φ0 a w ⟨hd, hn, φ, hle, hS, R⟩).1))
      · cases h
    · rename_i id c
      split at h
      · rename_i id' S1 M1 hx
        have h1 := ih _ _ _ _ _ _ _ hx
        split at h
        · rename_i hid
          cases h
          refine ⟨(ng _).2 (fun l h => by cases h), fun φ0 a w I => .of (fun _ h => by cases h) (wp_block (wp_mono (h1.2 φ0 a w I).1 ?_))⟩
          rintro e' a' w' ⟨rfl, I'⟩
          simp only [Exit.inBlock, if_pos hid]
          exact ⟨rfl, I'⟩
        · rename_i hid
          cases h
          refine ⟨(ng _).2 (fun l h => by cases h), fun φ0 a w I => .of (fun _ h => by cases h) (wp_block (wp_mono (h1.2 φ0 a w I).1 ?_))⟩
          rintro e' a' w' ⟨rfl, I'⟩
          simp only [Exit.inBlock, if_neg hid]
          exact ⟨rfl, I'⟩
      · rename_i hne
        have h1 := ih _ _ _ _ _ _ _ h
        refine ⟨h1.1, fun φ0 a w I => .of (fun _ h => by cases h) (wp_block (wp_mono (h1.2 φ0 a w I).1 ?_))⟩
        rintro e' a' w' ⟨rfl, I'⟩
        cases e' with
        | exit id' => exact absurd h (hne _ _ _)
        | _ => exact ⟨rfl, I'⟩
    · rename_i b
      split at h
      · rename_i S1 M1 hx
        have h1 := ih _ _ _ _ _ _ _ hx
        have h2 := ih _ _ _ _ _ _ _ h
        refine ⟨h2.1, fun φ0 a w I => .loop fun b0 k cs => ?_⟩
        obtain ⟨e₁, a₁, w₁, ⟨rfl, I₁⟩, harr⟩ := (h1.2 φ0 a w I).1 b0 (.inLoop b :: k) cs
        obtain ⟨e₂, a₂, w₂, hq, harr₂⟩ := (h2.2 φ0 a₁ w₁ I₁).2 b rfl b0 k cs
        exact ⟨e₂, a₂, w₂, hq, .of_steps (Steps.trans harr (.one step_inLoop)) harr₂⟩
      · rename_i hne
        have h1 := ih _ _ _ _ _ _ _ h
        refine ⟨h1.1, fun φ0 a w I => .loop fun b0 k cs => ?_⟩
        obtain ⟨e₁, a₁, w₁, ⟨rfl, I₁⟩, harr⟩ := (h1.2 φ0 a w I).1 b0 (.inLoop b :: k) cs
        cases e₁ with
        | normal => exact absurd h (hne _ _)
        | exit id => exact ⟨_, a₁, w₁, ⟨rfl, I₁⟩, .pass (x := .inLoop b) rfl (fun _ _ => .inl (by simp)) harr⟩
        | goto l => exact ⟨_, a₁, w₁, ⟨rfl, I₁⟩, .pass (x := .inLoop b) rfl (fun _ _ => .inl (by simp)) harr⟩
        | ret => exact ⟨_, a₁, w₁, ⟨rfl, I₁⟩, .pass (x := .inLoop b) rfl (fun _ _ => .inl (by simp)) harr⟩
        | panic ch => exact ⟨_, a₁, w₁, ⟨rfl, I₁⟩, .pass (x := .inLoop b) rfl (fun _ _ => .inl (by simp)) harr⟩
        | outgrown => exact ⟨_, a₁, w₁, ⟨rfl, I₁⟩, .pass (x := .inLoop b) rfl (fun _ _ => .inl (by simp)) harr⟩
    · cases h
      exact ⟨(ng _).2 (fun l h => by cases h), fun φ0 a w I => .of (fun _ h => by cases h) (wp_exit ⟨rfl, I⟩)⟩
    · rename_i c
      have h1 := ih _ _ _ _ _ _ _ h
      refine ⟨h1.1, fun φ0 a w I => .of (fun _ h => by cases h) (wp_scope_straight (wp_mono (h1.2 φ0 a w I).1 ?_))⟩
      rintro e' a' w' ⟨rfl, I'⟩
      have hng := (ng _).1 h1.1
      cases e' with
      | goto l => exact absurd rfl (hng l)
      | _ => exact ⟨rfl, I'⟩
    · cases h
      exact ⟨(ng _).2 (fun l h => by cases h), fun φ0 a w I => .of (fun _ h => by cases h) (wp_label ⟨rfl, I⟩)⟩
    · cases h
      exact ⟨(ng _).2 (fun l h => by cases h), fun φ0 a w I => .of (fun _ h => by cases h) (wp_ret ⟨rfl, I⟩)⟩
    · cases h
end
end Go.Proofs.YtcmaledchnhccaaGreatDoor

/-! That the executor follows the model: regions whose order is drawn, first part. No condition. -/
namespace Go.Proofs.YtcmaledchnhccaaGreatDoor
open Go Go.RowKit

section
variable {Y : TYS} {S : Tr XV} {M M' M2 : Mem}

theorem same_mem {x : Option XV} {r : Option XV} (h : same M x = some (r, M')) : M' = M := by cases x <;> cases h; rfl
theorem same_any {x : Option XV} {r : Option XV} (h : same M x = some (r, M')) : same M2 x = some (r, M2) := by cases x <;> cases h; rfl

/-- what is handed back leaves the memory, and does not hang on it -/
def Keeps (f : Mem → Option (Option XV × Mem)) : Prop := ∀ (M : Mem) (r : Option XV) (M' : Mem), f M = some (r, M') → M' = M ∧ r.isSome = true
def Pure (f : Mem → Option (Option XV × Mem)) : Prop := ∀ (M M2 : Mem) (r : Option XV) (M' : Mem), f M = some (r, M') → f M2 = some (r, M2)
theorem keeps_same (x : Mem → Option XV) : Keeps fun M => same M (x M) := fun M r M' h => by
  simp only [same] at h
  split at h
  · cases h; exact ⟨rfl, rfl⟩
  · cases h
theorem pure_same (x : Option XV) : Pure fun M => same M x := fun _ _ _ _ h => same_any h
theorem keeps_none : Keeps fun _ => none := fun M r M' h => by cases h
theorem pure_none : Pure fun _ => none := fun M M2 r M' h => by cases h
theorem keeps_val (v : XV) : Keeps fun M => some (some v, M) := fun M r M' h => by cases h; exact ⟨rfl, rfl⟩
theorem pure_val (v : XV) : Pure fun M => some (some v, M) := fun M M2 r M' h => by cases h; rfl

theorem same_keeps {x : Option XV} {r : Option XV} (h : same M x = some (r, M')) : M' = M ∧ r.isSome = true := by cases x <;> cases h; exact ⟨rfl, rfl⟩

set_option maxHeartbeats 1000000 in
theorem xop_keeps {o : Op} {r : Option XV} (he : effOp o = false) (h : xop Y S M o = some (r, M')) : M' = M ∧ r.isSome = true := by
  cases o
  case call c =>
    simp only [effOp] at he
    simp only [xop] at h
    split at h
    · rename_i b hb
      rw [hb] at he
      split at h
      all_goals first
        | (simp at he; done)
        | (cases h; done)
        | (split at h; exact same_keeps h; cases h)
    · cases h
  case makeFunc f first captured =>
    cases f <;> simp only [xop] at h
    · split at h
      · cases h; exact ⟨rfl, rfl⟩
      · cases h
    all_goals cases h
  all_goals (try (exfalso; simp [effOp] at he; done))
  all_goals simp only [xop] at h
  all_goals (try (exact same_keeps h))
  all_goals (try (cases h; done))
  all_goals (try (split at h <;> first | exact same_keeps h | (cases h; exact ⟨rfl, rfl⟩) | (cases h; done)))
set_option maxHeartbeats 1000000 in
theorem xop_pure {o : Op} {r : Option XV} (he : effOp o = false) (hr : readOp o = false) (h : xop Y S M o = some (r, M')) : xop Y S M2 o = some (r, M2) := by
  cases o
  case call c =>
    simp only [effOp] at he
    simp only [xop] at h ⊢
    cases hb : c.callee with
    | builtin b =>
      rw [hb] at he
      simp only [hb] at h ⊢
      generalize c.argTypes.toList = ts at h ⊢
      generalize c.args.toList = xs at h ⊢
      cases b
      all_goals (try (simp at he; done))
      all_goals (try (cases h; done))
      case len =>
        match ts, xs, h with
        | [T], [x], h =>
          simp only at h ⊢
          cases hx : ev S x <;> simp only [hx] at h ⊢
          · cases h
          · exact same_any h
      case cap =>
        match ts, xs, h with
        | [T], [x], h =>
          simp only at h ⊢
          cases hx : ev S x <;> simp only [hx] at h ⊢
          · cases h
          · exact same_any h
      case max =>
        match xs, h with
        | [x, y], h =>
          simp only at h ⊢
          cases hx : ev S x <;> simp only [hx] at h ⊢
          · cases h
          · cases hy : ev S y <;> simp only [hy] at h ⊢
            · cases h
            · exact same_any h
      case min =>
        match xs, h with
        | [x, y], h =>
          simp only at h ⊢
          cases hx : ev S x <;> simp only [hx] at h ⊢
          · cases h
          · cases hy : ev S y <;> simp only [hy] at h ⊢
            · cases h
            · exact same_any h
      case unsafeSliceData =>
        match xs, h with
        | [x], h =>
          simp only at h ⊢
          cases hx : ev S x <;> simp only [hx] at h ⊢
          · cases h
          · exact same_any h
    | _ => simp only [hb] at h; cases h
  case makeFunc f first captured =>
    cases f <;> simp only [xop] at h ⊢
    · generalize evs S captured.toList = q at h ⊢
      generalize first.toList = l at h ⊢
      cases l <;> cases q <;> simp only at h ⊢ <;> first
        | (cases h; done)
        | (cases h; rfl)
    all_goals cases h
  case pick c a b =>
    simp only [xop] at h ⊢
    cases hx : ev S c <;> simp only [hx] at h ⊢
    · cases h
    · rename_i v
      cases v <;> simp only at h ⊢ <;> first
        | (cases h; done)
        | exact same_any h
  case nilCheck x =>
    simp only [xop] at h ⊢
    cases hx : ev S x <;> simp only [hx] at h ⊢
    · cases h
    · rename_i v
      cases v <;> simp only at h ⊢ <;> first
        | (cases h; done)
        | (cases h; rfl)
  case unOp op T x =>
    simp only [xop] at h ⊢
    cases hx : ev S x <;> simp only [hx] at h ⊢
    · cases h
    · exact same_any h
  case fieldAddr T x f =>
    simp only [xop] at h ⊢
    cases hx : ev S x <;> simp only [hx] at h ⊢
    · cases h
    · exact same_any h
  case field T x f =>
    simp only [xop] at h ⊢
    cases hx : ev S x <;> simp only [hx] at h ⊢
    · cases h
    · exact same_any h
  case extract x i =>
    simp only [xop] at h ⊢
    cases hx : ev S x <;> simp only [hx] at h ⊢
    · cases h
    · exact same_any h
  case slice T x lo hi mx =>
    simp only [xop] at h ⊢
    cases hx : ev S x <;> simp only [hx] at h ⊢
    · cases h
    · exact same_any h
  case binOp op T x y yT =>
    simp only [xop] at h ⊢
    cases hx : ev S x <;> simp only [hx] at h ⊢
    · cases h
    · cases hy : ev S y <;> simp only [hy] at h ⊢
      · cases h
      · exact same_any h
  case indexAddr T x y =>
    simp only [xop] at h ⊢
    cases hx : ev S x <;> simp only [hx] at h ⊢
    · cases h
    · cases hy : ev S y <;> simp only [hy] at h ⊢
      · cases h
      · exact same_any h
  case index T x y =>
    simp only [xop] at h ⊢
    cases hx : ev S x <;> simp only [hx] at h ⊢
    · cases h
    · cases hy : ev S y <;> simp only [hy] at h ⊢
      · cases h
      · exact same_any h
  all_goals (try (exfalso; simp [effOp] at he; done))
  all_goals (try (exfalso; simp [readOp] at hr; done))
  all_goals simp only [xop] at h ⊢
  all_goals (try (exact same_any h))
  all_goals (try (cases h; done))
end
end Go.Proofs.YtcmaledchnhccaaGreatDoor

/-! That the executor follows the model: regions whose order is drawn, second part: what the run in the text's order tells. No condition. -/
namespace Go.Proofs.YtcmaledchnhccaaGreatDoor
open Go Go.RowKit

mutual
theorem beqX_eq : ∀ (x y : XV), beqX x y = true → x = y
  | .int k a, y, h => by cases y <;> simp_all [beqX]
  | .bool a, y, h => by cases y <;> simp_all [beqX]
  | .str a, y, h => by cases y <;> simp_all [beqX]
  | .nilp, y, h => by cases y <;> simp_all [beqX]
  | .ptr g o, y, h => by cases y <;> simp_all [beqX]
  | .nils, y, h => by cases y <;> simp_all [beqX]
  | .sl g o l c, y, h => by cases y <;> simp_all [beqX]
  | .so g a s l, y, h => by cases y <;> simp_all [beqX]
  | .nilf, y, h => by cases y <;> simp_all [beqX]
  | .nili, y, h => by cases y <;> simp_all [beqX]
  | .agg xs, y, h => by
    cases y <;> simp only [beqX] at h <;> first
      | (cases h; done)
      | rw [beqL_eq xs _ h]
  | .tup xs, y, h => by
    cases y <;> simp only [beqX] at h <;> first
      | (cases h; done)
      | rw [beqL_eq xs _ h]
  | .fn f xs, y, h => by
    cases y <;> simp only [beqX, Bool.and_eq_true, decide_eq_true_eq] at h <;> first
      | (cases h; done)
      | rw [h.1, beqL_eq xs _ h.2]
  | .ifc t x, y, h => by
    cases y <;> simp only [beqX, Bool.and_eq_true, decide_eq_true_eq] at h <;> first
      | (cases h; done)
      | rw [h.1, beqX_eq x _ h.2]
theorem beqL_eq : ∀ (xs ys : List XV), beqX.beqL xs ys = true → xs = ys
  | [], ys, h => by cases ys <;> simp_all [beqX.beqL]
  | x :: xs, [], h => by simp [beqX.beqL] at h
  | x :: xs, y :: ys, h => by
    simp only [beqX.beqL, Bool.and_eq_true] at h
    rw [beqX_eq x y h.1, beqL_eq xs ys h.2]
end

section
variable {Y : TYS} {S S0 : Tr XV} {M M' M2 : Mem} {call : Caller} {ops : Array Oper} {p : Plan}

theorem callee_noneff {c : Call} {fo : Operand} (he : effOp (.call c) = false) (hc : c.callee = .value fo) : False := by simp [effOp, hc] at he

theorem dStep_keeps {o : Oper} {v : XV} (he : effOp o.op = false) (h : dStep Y call ops o S M = some (v, M')) : M' = M := by
  unfold dStep at h
  split at h
  · cases h; rfl
  · split at h
    · rename_i c hc
      split at h
      · rename_i fo hfo
        exact (callee_noneff (hc ▸ he) hfo).elim
      · split at h
        · rename_i hx
          cases h
          exact (xop_keeps he hx).1
        · cases h
    · split at h
      · rename_i hx; cases h; exact (xop_keeps he hx).1
      · rename_i hx; cases h; exact (xop_keeps he hx).1
      · cases h
  · cases h
theorem dStep_pure {o : Oper} {v : XV} (he : effOp o.op = false) (hr : readOp o.op = false) (h : dStep Y call ops o S M = some (v, M')) : dStep Y call ops o S M2 = some (v, M2) := by
  unfold dStep at h ⊢
  split at h
  · cases h; rfl
  · split at h
    · rename_i c hc
      split at h
      · rename_i fo hfo
        exact (callee_noneff (hc ▸ he) hfo).elim
      · split at h
        · rename_i v' M1 hx
          cases h
          have hk := xop_pure (M2 := M2) he hr hx
          simp only [hk]
        · cases h
    · split at h
      · rename_i v' M1 hx
        cases h
        have hk := xop_pure (M2 := M2) he hr hx
        simp only [hk]
      · rename_i M1 hx
        cases h
        have := (xop_keeps he hx).2
        cases this
      · cases h
  · cases h
end
end Go.Proofs.YtcmaledchnhccaaGreatDoor

/-! That the executor follows the model: regions whose order is drawn, third part: the values and memories of the run in the text's order. No condition. -/
namespace Go.Proofs.YtcmaledchnhccaaGreatDoor
open Go Go.RowKit

/-- how many operations turn the memory -/
def posOf (l : List Oper) : Nat := (l.filter fun o => effOp o.op).length
theorem posOf_append (l m : List Oper) : posOf (l ++ m) = posOf l + posOf m := by simp [posOf]

section
variable {Y : TYS} {S S0 : Tr XV} {M M' M2 : Mem} {call : Caller} {ops : Array Oper} {p : Plan}

theorem dGo_facts : ∀ (os pre : List Oper) (vals : List XV) (M : Mem) (mems : List Mem) {vals' : List XV} {M' : Mem} {mems' : List Mem}, ops.toList = pre ++ os → vals.length = pre.length → mems.length = posOf pre + 1 → mems[posOf pre]? = some M →
    dGo Y call ops p S0 os vals M mems = some (vals', M', mems') →
    vals'.length = ops.size ∧ (∃ t, vals' = vals ++ t) ∧ (∃ t, mems' = mems ++ t) ∧ mems'.length = posOf ops.toList + 1 ∧ mems'[posOf ops.toList]? = some M' ∧
    ∀ (i : Nat) (o : Oper), pre.length ≤ i → ops.toList[i]? = some o → ∃ Mi Mi' v, mems'[posOf (ops.toList.take i)]? = some Mi ∧ vals'[i]? = some v ∧
      dStep Y call ops o (dSlots ops p i S0 (vals'.take i) (looks ops o)) Mi = some (v, Mi') ∧ (effOp o.op = true → mems'[posOf (ops.toList.take i) + 1]? = some Mi')
  | [], pre, vals, M, mems, vals', M', mems', hops, hv, hm, hM, h => by
    cases h
    rw [List.append_nil] at hops
    have hsz : ops.size = pre.length := by rw [← hops]; simp
    refine ⟨by omega, ⟨[], by simp⟩, ⟨[], by simp⟩, by rw [hops]; exact hm, by rw [hops]; exact hM, fun i o hi ho => ?_⟩
    rw [hops, List.getElem?_eq_none hi] at ho
    cases ho
  | o :: os, pre, vals, M, mems, vals', M', mems', hops, hv, hm, hM, h => by
    unfold dGo at h
    split at h
    · rename_i v M1 hs
      have hops' : ops.toList = (pre ++ [o]) ++ os := by rw [hops]; simp
      have hpos : posOf (pre ++ [o]) = posOf pre + (if effOp o.op then 1 else 0) := by
        rw [posOf_append]; congr 1
        cases he : effOp o.op <;> simp [posOf, he]
      have hM1 : effOp o.op = false → M1 = M := fun he => dStep_keeps he hs
      obtain ⟨h1, ⟨t1, h2⟩, ⟨t2, h3⟩, h4, h5, h6⟩ := dGo_facts os (pre ++ [o]) (vals ++ [v]) M1 (if effOp o.op then mems ++ [M1] else mems) hops' (by simp [hv]) (by
          rw [hpos]; cases he : effOp o.op <;> simp [hm]) (by
          rw [hpos]
          cases he : effOp o.op
          · simp only [Bool.false_eq_true, if_false, Nat.add_zero]; rw [hM1 he]; exact hM
          · simp only [if_true]
            rw [List.getElem?_append_right (by omega), hm]
            simp) h
      have hpre : mems'[posOf pre]? = some M := by
        rw [h3]
        have hlt := getElem?_lt hM
        cases he : effOp o.op
        · simp only [Bool.false_eq_true, if_false]; rw [List.getElem?_append_left hlt]; exact hM
        · simp only [if_true]; rw [List.append_assoc, List.getElem?_append_left hlt]; exact hM
      refine ⟨h1, ⟨v :: t1, by rw [h2]; simp⟩, ?_, h4, h5, fun i o' hi ho => ?_⟩
      · cases he : effOp o.op
        · rw [he] at h3; exact ⟨t2, by simpa using h3⟩
        · rw [he] at h3; exact ⟨M1 :: t2, by simpa using h3⟩
      · by_cases hip : i = pre.length
        · subst hip
          have ho' : o' = o := by
            rw [hops, List.getElem?_append_right (Nat.le_refl _)] at ho
            simpa using ho.symm
          subst ho'
          have htake : ops.toList.take pre.length = pre := by rw [hops]; simp
          have hvt : vals'.take pre.length = vals := by rw [h2, List.append_assoc, ← hv]; simp
          refine ⟨M, M1, v, by rw [htake]; exact hpre, ?_, by rw [hvt, ← hv]; exact hs, fun he => ?_⟩
          · rw [h2, List.append_assoc, List.getElem?_append_right (by omega), ← hv]; simp
          · rw [htake, h3, he]
            simp only [if_true]
            rw [List.append_assoc, List.getElem?_append_right (by omega), hm]
            simp
        · exact h6 i o' (by simp; omega) ho
    · cases h

/-- where the slots go -/
theorem dPut_ok {n : Nat} : ∀ (os : List Oper) (vs : List XV) (S : Tr XV) {S' : Tr XV}, dPut n os vs S = some S' → os.length = vs.length →
    (∀ (i : Nat) (o : Oper) (d : Nat), os[i]? = some o → o.dst = some d → d < n ∧ d + 1 < 1024) ∧
    ((os.filterMap (·.dst)).Nodup → ∀ t, S'.get t = match os.findIdx? (fun o => o.dst == some t) with
      | some j => vs[j]?
      | none => S.get t)
  | [], [], S, S', h, hl => by cases h; exact ⟨by simp, fun _ t => rfl⟩
  | [], v :: vs, S, S', h, hl => by simp at hl
  | o :: os, [], S, S', h, hl => by simp at hl
  | o :: os, v :: vs, S, S', h, hl => by
    unfold dPut at h
    split at h
    · rename_i S1 hp
      obtain ⟨h1, h2⟩ := dPut_ok os vs S1 h (by simpa using hl)
      cases hd : o.dst with
      | none =>
        rw [hd] at hp
        cases hp
        refine ⟨fun i o' d hi hd' => ?_, fun hnd t => ?_⟩
        · cases i with
          | zero => simp at hi; subst hi; rw [hd] at hd'; cases hd'
          | succ i => simp at hi; exact h1 i o' d hi hd'
        · rw [h2 (by simpa [List.filterMap_cons, hd] using hnd) t, List.findIdx?_cons]
          simp only [hd]
          cases hf : os.findIdx? (fun o => o.dst == some t) <;> simp
      | some d0 =>
        rw [hd] at hp
        simp only [dput, sput] at hp
        split at hp
        · rename_i hc
          cases hp
          refine ⟨fun i o' d hi hd' => ?_, fun hnd t => ?_⟩
          · cases i with
            | zero => simp at hi; subst hi; rw [hd] at hd'; cases hd'; exact hc
            | succ i => simp at hi; exact h1 i o' d hi hd'
          · rw [List.filterMap_cons] at hnd
            simp only [hd] at hnd
            rw [List.nodup_cons] at hnd
            rw [h2 hnd.2 t, List.findIdx?_cons]
            simp only [hd]
            by_cases ht : d0 = t
            · subst ht
              have hnone : os.findIdx? (fun o => o.dst == some d0) = none := by
                rw [List.findIdx?_eq_none_iff]
                intro x hx
                cases hxd : x.dst with
                | none => rfl
                | some e =>
                  have : e ≠ d0 := fun he => hnd.1 (List.mem_filterMap.2 ⟨x, hx, by rw [hxd, he]⟩)
                  simpa using this
              rw [hnone]
              simp [Tr.get_set 10 S d0 _ d0 hc.2]
            · have hb : (some d0 == some t) = false := by simpa using ht
              rw [hb]
              cases hf : os.findIdx? (fun o => o.dst == some t) with
              | none => simp [Tr.get_set 10 S d0 _ t hc.2, Ne.symm ht]
              | some j => simp
        · cases hp
    · cases h
end
end Go.Proofs.YtcmaledchnhccaaGreatDoor

/-! That the executor follows the model: regions whose order is drawn, fourth part: who is ahead of whom. No condition. -/
namespace Go.Proofs.YtcmaledchnhccaaGreatDoor
open Go Go.RowKit

/-- what is listed is listed with all that must be ahead of it -/
def Closed (ops : Array Oper) (L : Nat → Bool) : Prop := ∀ (i : Nat) (o : Oper) (e : Edge), ops[i]? = some o → L i = true → e ∈ o.after.toList → Region.binds .any e = true → L e.on = true

section
variable {ops : Array Oper} {p : Plan}

theorem edgeMask_bit {anc : List Nat} {i j : Nat} : ∀ (es : List Edge), bit (edgeMask anc i es) j = true → ∃ e ∈ es, Region.binds .any e = true ∧ (j = e.on ∨ bit (anc.getD e.on 0) j = true)
  | [], h => by simp [edgeMask, bit] at h
  | e :: es, h => by
    unfold edgeMask at h
    split at h
    · rename_i hb
      unfold bit at h
      rw [Nat.testBit_or, Nat.testBit_or] at h
      simp only [Bool.or_eq_true] at h
      rcases h with (h | h) | h
      · rw [Nat.testBit_two_pow] at h
        exact ⟨e, by simp, hb, .inl (of_decide_eq_true h).symm⟩
      · exact ⟨e, by simp, hb, .inr h⟩
      · obtain ⟨e', he', h1, h2⟩ := edgeMask_bit es h
        exact ⟨e', by simp [he'], h1, h2⟩
    · obtain ⟨e', he', h1, h2⟩ := edgeMask_bit es h
      exact ⟨e', by simp [he'], h1, h2⟩

theorem masks_at {anc : List Nat} (h : masksOK ops.toList anc = true) {i : Nat} {o : Oper} (ho : ops[i]? = some o) :
    (∀ e ∈ o.after.toList, Region.binds .any e = true → e.on < i) ∧ anc.getD i 0 = edgeMask anc i o.after.toList := by
  unfold masksOK at h
  rw [List.all_eq_true] at h
  have hi : i < ops.toList.length := by have := (Array.getElem?_eq_some_iff.1 ho).1; simpa using this
  have := h i (List.mem_range.2 hi)
  rw [Array.getElem?_toList, ho] at this
  simp only [Bool.and_eq_true, beq_iff_eq, List.all_eq_true] at this
  refine ⟨fun e he hb => ?_, this.2⟩
  have h1 := this.1 e he
  rw [hb] at h1
  simpa using h1

/-- ancestors of what may be carried out are listed -/
theorem anc_listed {anc : List Nat} (h : masksOK ops.toList anc = true) {L : Nat → Bool} (hc : Closed ops L) : ∀ (i : Nat) {o : Oper}, ops[i]? = some o → (∀ e ∈ o.after.toList, Region.binds .any e = true → L e.on = true) → ∀ j, bit (anc.getD i 0) j = true → L j = true := by
  intro i
  induction i using Nat.strongRecOn with
  | _ i ih =>
    intro o ho hl j hj
    obtain ⟨h1, h2⟩ := masks_at h ho
    rw [h2] at hj
    obtain ⟨e, he, hb, hje⟩ := edgeMask_bit _ hj
    have hon := hl e he hb
    rcases hje with rfl | hje
    · exact hon
    · have hlt := h1 e he hb
      have hi := (Array.getElem?_eq_some_iff.1 ho).1
      have ho' : ops[e.on]? = some ops[e.on] := Array.getElem?_eq_getElem (by omega)
      exact ih e.on hlt ho' (fun e' he' hb' => hc e.on _ e' ho' hon he' hb') j hje
theorem anc_of_listed {anc : List Nat} (h : masksOK ops.toList anc = true) {L : Nat → Bool} (hc : Closed ops L) {i j : Nat} (hi : i < ops.size) (hl : L i = true) (hj : bit (anc.getD i 0) j = true) : L j = true :=
  anc_listed h hc i (Array.getElem?_eq_getElem hi) (fun e he hb => hc i _ e (Array.getElem?_eq_getElem hi) hl he hb) j hj

theorem chain_at {anc : List Nat} : ∀ {es : List Nat} {q e e' : Nat}, chainOK anc es = true → es[q]? = some e → es[q + 1]? = some e' → bit (anc.getD e' 0) e = true
  | [], q, e, e', h, h1, h2 => by simp at h1
  | [x], q, e, e', h, h1, h2 => by simp at h2
  | x :: y :: es, q, e, e', h, h1, h2 => by
    unfold chainOK at h
    simp only [Bool.and_eq_true] at h
    cases q with
    | zero => simp at h1 h2; subst h1 h2; exact h.1
    | succ q => exact chain_at (q := q) h.2 (by simpa using h1) (by simpa using h2)

/-- the effects, by number -/
def effsOf (ops : Array Oper) : List Nat := (List.range ops.size).filter fun i => match ops[i]? with
  | some o => effOp o.op
  | none => false
theorem effs_mem {i : Nat} : i ∈ effsOf ops ↔ ∃ o, ops[i]? = some o ∧ effOp o.op = true := by
  unfold effsOf
  rw [List.mem_filter, List.mem_range]
  constructor
  · rintro ⟨h1, h2⟩
    have : ops[i]? = some ops[i] := Array.getElem?_eq_getElem h1
    rw [this] at h2
    exact ⟨_, this, h2⟩
  · rintro ⟨o, ho, he⟩
    exact ⟨(Array.getElem?_eq_some_iff.1 ho).1, by rw [ho]; exact he⟩
theorem effs_nodup : (effsOf ops).Nodup := List.Nodup.sublist List.filter_sublist List.nodup_range

theorem effs_count (l : List Oper) : ∀ n, n ≤ l.length → ((List.range n).filter fun i => match l[i]? with
    | some o => effOp o.op
    | none => false).length = posOf (l.take n)
  | 0, h => rfl
  | n + 1, h => by
    have ih := effs_count l n (by omega)
    rw [List.range_succ, List.filter_append, List.length_append, ih]
    have hg : l[n]? = some l[n] := List.getElem?_eq_getElem (by omega)
    rw [List.take_add_one, hg, posOf_append]
    congr 1
    simp only [Option.toList]
    cases he : effOp l[n].op <;> simp [posOf, he, hg]
/-- the effect at i is the posOf-th -/
theorem effs_at {i : Nat} {o : Oper} (ho : ops[i]? = some o) (he : effOp o.op = true) : (effsOf ops)[posOf (ops.toList.take i)]? = some i := by
  have hi := (Array.getElem?_eq_some_iff.1 ho).1
  have hr : List.range ops.size = List.range i ++ i :: (List.range' (i + 1) (ops.size - i - 1)) := by
    rw [List.range_eq_range', List.range_eq_range']
    have : ops.size = i + (1 + (ops.size - i - 1)) := by omega
    conv => lhs; rw [this]
    rw [← List.range'_append_1, Nat.zero_add]
    congr 1
    rw [Nat.add_comm 1, List.range'_succ]
  have hc := effs_count ops.toList i (by simp; omega)
  unfold effsOf
  have hfun : (fun i : Nat => match (ops[i]? : Option Oper) with
      | some o => effOp o.op
      | none => false) = (fun i : Nat => match (ops.toList[i]? : Option Oper) with
      | some o => effOp o.op
      | none => false) := by funext j; rw [Array.getElem?_toList]
  rw [hfun, hr, List.filter_append, List.getElem?_append_right (by rw [hc]; exact Nat.le_refl _), hc]
  have hoi : (match ops.toList[i]? with
      | some o => effOp o.op
      | none => false) = true := by rw [Array.getElem?_toList, ho]; exact he
  rw [Nat.sub_self, List.filter_cons, if_pos hoi]
  rfl
theorem effs_length : (effsOf ops).length = posOf ops.toList := by
  have := effs_count ops.toList ops.size (by simp)
  rw [List.take_of_length_le (by simp)] at this
  rw [← this]
  unfold effsOf
  have hfun : (fun i : Nat => match (ops[i]? : Option Oper) with
      | some o => effOp o.op
      | none => false) = (fun i : Nat => match (ops.toList[i]? : Option Oper) with
      | some o => effOp o.op
      | none => false) := by funext j; rw [Array.getElem?_toList]
  rw [hfun]
end
end Go.Proofs.YtcmaledchnhccaaGreatDoor

/-! That the executor follows the model: regions whose order is drawn, last part. No condition. -/
namespace Go.Proofs.YtcmaledchnhccaaGreatDoor
open Go Go.RowKit

def listedB (listed : Array Bool) : Nat → Bool := fun i => listed.getD i false
/-- what lies in slot t, when L is listed -/
def curAt (ops : Array Oper) (S0 : Tr XV) (vals : List XV) (L : Nat → Bool) (t : Nat) : Option XV :=
  match writer ops.toList t with
  | some j => if L j then vals[j]? else S0.get t
  | none => S0.get t

section
variable {P : Program} {φ φ0 : Phi} {w0 w w' : World} {Y : TYS} {S S0 : Tr XV} {M M' M2 : Mem} {call : Caller} {ops : Array Oper} {p : Plan} {n : Nat} {vals : List XV} {mems : List Mem}

theorem dSlots_get {i : Nat} {vals : List XV} : ∀ (ls : List Nat) {t : Nat} {x : XV}, (dSlots ops p i S0 vals ls).get t = some x → dSee ops p i S0 vals t = some x
  | [], t, x, h => by cases h
  | t0 :: ts, t, x, h => by
    unfold dSlots at h
    split at h
    · rename_i y hy
      split at h
      · rename_i hlt
        rw [Tr.get_set 10 _ t0 _ t hlt] at h
        split at h
        · rename_i he; cases h; rw [he]; exact hy
        · exact dSlots_get ts h
      · exact dSlots_get ts h
    · exact dSlots_get ts h

theorem writer_of : ∀ (l : List Oper) {i : Nat} {o : Oper} {t : Nat}, (l.filterMap (·.dst)).Nodup → l[i]? = some o → o.dst = some t → writer l t = some i
  | [], i, o, t, hn, ho, hd => by simp at ho
  | x :: l, i, o, t, hn, ho, hd => by
    unfold writer
    rw [List.findIdx?_cons]
    cases i with
    | zero => simp at ho; subst ho; simp [hd]
    | succ i =>
      simp at ho
      have hmem : t ∈ l.filterMap (·.dst) := List.mem_filterMap.2 ⟨o, List.mem_of_getElem? ho, hd⟩
      cases hx : x.dst with
      | none =>
        rw [List.filterMap_cons] at hn
        simp only [hx] at hn
        have := writer_of l hn ho hd
        unfold writer at this
        simp [this]
      | some d =>
        rw [List.filterMap_cons] at hn
        simp only [hx] at hn
        rw [List.nodup_cons] at hn
        have hne : d ≠ t := fun h => hn.1 (h ▸ hmem)
        have := writer_of l hn.2 ho hd
        unfold writer at this
        have hb : (some d == some t) = false := by simpa using hne
        rw [hb]
        simp [this]
theorem writer_dst {l : List Oper} {t j : Nat} (h : writer l t = some j) : ∃ o, l[j]? = some o ∧ o.dst = some t := by
  unfold writer at h
  rw [List.findIdx?_eq_some_iff_getElem] at h
  obtain ⟨hj, h1, _⟩ := h
  exact ⟨l[j], List.getElem?_eq_getElem hj, by simpa using h1⟩

/-- what the executor's run of a region has told -/
structure Told (Y : TYS) (call : Caller) (ops : Array Oper) (p : Plan) (n : Nat) (S0 : Tr XV) (vals : List XV) (mems : List Mem) : Prop where
  masks : masksOK ops.toList p.anc = true
  chain : chainOK p.anc (effsOf ops) = true
  peffs : p.effs = effsOf ops
  nodup : (ops.toList.filterMap (·.dst)).Nodup
  vlen : vals.length = ops.size
  mlen : mems.length = posOf ops.toList + 1
  at' : ∀ (i : Nat) (o : Oper), ops[i]? = some o → ∃ Mi Mi' v, mems[posOf (ops.toList.take i)]? = some Mi ∧ vals[i]? = some v ∧
      dStep Y call ops o (dSlots ops p i S0 (vals.take i) (looks ops o)) Mi = some (v, Mi') ∧ (effOp o.op = true → mems[posOf (ops.toList.take i) + 1]? = some Mi')
  reads : readsOK Y call ops p S0 vals mems = true
  dst : ∀ (i : Nat) (o : Oper) (d : Nat), ops[i]? = some o → o.dst = some d → d < n ∧ d + 1 < 1024

/-- where the region stands -/
structure RI (P : Program) (w0 : World) (φ0 : Phi) (n : Nat) (ops : Array Oper) (S0 : Tr XV) (vals : List XV) (mems : List Mem) (listed : Array Bool) (a : Act) (w : World) : Prop where
  df : a.defers = []
  sz : a.tmps.size = n
  lsz : listed.size = ops.size
  closed : Closed ops (listedB listed)
  st : ∃ φ c Mc, φ0.le φ ∧ mems[c]? = some Mc ∧ MR P φ w0 Mc w ∧ (∀ (j e : Nat), (effsOf ops)[j]? = some e → (listedB listed e = true ↔ j < c)) ∧
    ∀ t x, curAt ops S0 vals (listedB listed) t = some x → ∃ v, a.tmps[t]? = some v ∧ VX φ x v

/-- the slots that operation i sees -/
theorem seen (T : Told Y call ops p n S0 vals mems) {L : Nat → Bool} (hc : Closed ops L) {i : Nat} {o : Oper} (_ho : ops[i]? = some o) (hi : L i = false) (hanc : ∀ j, bit (p.anc.getD i 0) j = true → L j = true) {vs : List XV} (hvs : ∀ (j : Nat) (x : XV), vs[j]? = some x → vals[j]? = some x)
    {t : Nat} {x : XV} (h : dSee ops p i S0 vs t = some x) : curAt ops S0 vals L t = some x := by
  unfold dSee at h
  unfold curAt
  split at h
  · rename_i j hj
    rw [hj]
    simp only
    split at h
    · rename_i hb
      rw [if_pos (hanc j hb)]; exact hvs j x h
    · split at h
      · rename_i hb
        have hlj : L j = false := by
          rcases hb with rfl | hb
          · exact hi
          · cases hq : L j with
            | false => rfl
            | true =>
              obtain ⟨oj, hoj, _⟩ := writer_dst hj
              have hjs : j < ops.size := by have := getElem?_lt hoj; simpa using this
              have := anc_of_listed T.masks hc hjs hq hb
              rw [hi] at this; cases this
        rw [hlj]; exact h
      · cases h
  · rename_i hj; rw [hj]; exact h

/-- an operation's run -/
theorem dStep_ok (hY : YOK2 P Y) (hC : CallOK P w0 call) {a : Act} {o : Oper} {K : Act → World → Prop} {Q : Exit → Act → World → Prop} {v : XV} (R : MR P φ w0 M w) (hS : SR φ S a.tmps) (h : dStep Y call ops o S M = some (v, M'))
    (hK : ∀ φ' u w', φ.le φ' → VX φ' v u → MR P φ' w0 M' w' → K (a.put o.dst u) w') : if Region.wanted o (yielded ops a.tmps) then o.wp P a w K Q else K (a.put o.dst undef) w := by
  have hput : ∀ φ' u w', φ.le φ' → VX φ' v u → MR P φ' w0 M' w' → K (a.put o.dst u) w' := hK
  unfold dStep at h
  split at h
  · rename_i hw
    cases h
    rw [xWanted_ok hS hw, if_neg (by simp)]
    exact hK φ _ w (Phi.le_refl _) undef_VX R
  · rename_i hw
    rw [xWanted_ok hS hw, if_pos rfl]
    have did : ∀ r, Did P φ w0 (execOp a.eval o) w r M' → (match r with | some x => x | none => .tup []) = v → o.wp P a w K Q := by
      intro r ⟨φ', nx, w', hr, hle', R', hv⟩ hrv
      unfold Oper.wp
      cases r with
      | some x =>
        obtain ⟨u, rfl, hx⟩ := hv
        rw [hr, Oper.upon_value]
        simp only at hrv
        subst hrv
        exact hK φ' u w' hle' hx R'
      | none =>
        subst hv
        rw [hr, Oper.upon_skip]
        simp only at hrv
        subst hrv
        exact hK φ' _ w' hle' undef_VX R'
    split at h
    · rename_i c ho
      split at h
      · rename_i fo hfo
        split at h
        · rename_i f caps xs hf hxs
          obtain ⟨arr, hev, hcaps⟩ := VX_fn (ev_ok hS hf)
          have hargs : LX φ (xs ++ caps) (c.args.map a.eval ++ arr) := LX.append' (by have := evs_ok hS _ hxs; simpa [← Array.toList_map] using this) hcaps
          rcases hC f (xs ++ caps) M v _ h φ w _ R hargs with ⟨hen, hcall⟩ | ⟨u, w', hr, φ', hle', hv, R'⟩
          · unfold Oper.wp
            rw [run_callv ho hfo hev hen w, Oper.upon_enter]
            refine hcall.mono fun e w' ⟨u, he, φ', hle', hv, R'⟩ => ?_
            subst he
            exact hK φ' u w' hle' hv R'
          · unfold Oper.wp
            have hrun : (execOp a.eval o).run P w = .ok (.value u) w' := by
              unfold execOp
              rw [ho]
              show ((resolve a.eval c o.type >>= fun d => invoke d.target d.args) : Sem Next).run P w = _
              have : (resolve a.eval c o.type).run P w = .ok { target := .fn (.func f) arr, args := #[] ++ c.args.map a.eval } w := by
                unfold resolve
                rw [hfo]
                simp only [hev, Deferred.ofValue]
                rfl
              rw [run_bind_ok this]
              show (callFunc f ((#[] ++ c.args.map a.eval) ++ arr)).run P w = _
              simpa using hr
            rw [hrun, Oper.upon_value]
            exact hK φ' u w' hle' hv R'
        · cases h
      · split at h
        · rename_i v' M1 hx
          cases h
          exact did _ (xop_ok hY R hS hx) rfl
        · cases h
    · split at h
      · rename_i v' M1 hx
        cases h
        exact did _ (xop_ok hY R hS hx) rfl
      · rename_i M1 hx
        cases h
        exact did _ (xop_ok hY R hS hx) rfl
      · cases h
  · cases h
end
end Go.Proofs.YtcmaledchnhccaaGreatDoor

/-! That the executor follows the model: regions whose order is drawn: any order does the same. No condition. -/
namespace Go.Proofs.YtcmaledchnhccaaGreatDoor
open Go Go.RowKit

section
variable {P : Program} {φ φ0 : Phi} {w0 w w' : World} {Y : TYS} {S S0 : Tr XV} {M M' M2 : Mem} {call : Caller} {ops : Array Oper} {p : Plan} {n : Nat} {vals : List XV} {mems : List Mem}

theorem takeWhile_stop {α : Type} {p : α → Bool} : ∀ (l : List α) (h : (l.takeWhile p).length < l.length), p l[(l.takeWhile p).length] = false
  | [], h => by simp at h
  | x :: l, h => by
    cases hx : p x with
    | false =>
      have : (x :: l).takeWhile p = [] := by simp [hx]
      simp only [this, List.length_nil, List.getElem_cons_zero]
      exact hx
    | true =>
      have e : (x :: l).takeWhile p = x :: l.takeWhile p := by simp [hx]
      simp only [e, List.length_cons] at h ⊢
      simp only [List.getElem_cons_succ]
      exact takeWhile_stop l (by omega)
theorem takeWhile_mem {α : Type} {p : α → Bool} : ∀ (l : List α) (x : α), x ∈ l.takeWhile p → p x = true
  | [], x, h => by simp at h
  | y :: l, x, h => by
    rw [List.takeWhile_cons] at h
    split at h
    · rename_i hy
      rcases List.mem_cons.1 h with rfl | h
      · exact hy
      · exact takeWhile_mem l x h
    · simp at h
theorem takeWhile_le {α : Type} {p : α → Bool} (l : List α) : (l.takeWhile p).length ≤ l.length := (List.takeWhile_sublist p).length_le

theorem prefix_get {α : Type} {l m : List α} {j : Nat} {x : α} (h : l <+: m) (hx : l[j]? = some x) : m[j]? = some x := by
  obtain ⟨t, rfl⟩ := h
  rw [List.getElem?_append_left (getElem?_lt hx)]; exact hx
theorem listedB_set {listed : Array Bool} {i : Nat} (hi : i < listed.size) (j : Nat) : listedB (listed.setIfInBounds i true) j = if j = i then true else listedB listed j := by
  unfold listedB
  simp only [Array.getD_eq_getD_getElem?, Array.getElem?_setIfInBounds]
  by_cases h : i = j
  · subst h; simp [hi]
  · simp [h, Ne.symm h]

theorem ready_at {listed : Array Bool} {i : Nat} (h : i ∈ Region.ready .any ops listed) (hs : listed.size = ops.size) : ∃ o, ops[i]? = some o ∧ listedB listed i = false ∧ ∀ e ∈ o.after.toList, Region.binds .any e = true → listedB listed e.on = true := by
  unfold Region.ready at h
  rw [List.mem_filter, List.mem_range] at h
  obtain ⟨hi, h⟩ := h
  have ho : ops[i]? = some ops[i] := Array.getElem?_eq_getElem hi
  rw [ho] at h
  simp only [Bool.and_eq_true, Option.map_some, Option.getD_some, Bool.not_eq_true'] at h
  refine ⟨_, ho, ?_, fun e he hb => ?_⟩
  · have := h.1
    unfold listedB
    rw [Array.getD_eq_getD_getElem?] at this ⊢
    rw [Array.getElem?_eq_getElem (by omega)] at this ⊢
    exact this
  · have h2 := h.2
    rw [Array.all_eq_true'] at h2
    have := h2 e (by simpa using he)
    rw [hb] at this
    simpa [listedB] using this

/-- one more is carried out -/
theorem RI_step (hY : YOK2 P Y) (hC : CallOK P w0 call) (T : Told Y call ops p n S0 vals mems) {listed : Array Bool} {a : Act} {Q : Exit → Act → World → Prop} (I : RI P w0 φ0 n ops S0 vals mems listed a w) {i : Nat} {o : Oper} (ho : ops[i]? = some o) (hi : listedB listed i = false)
    (haft : ∀ e ∈ o.after.toList, Region.binds .any e = true → listedB listed e.on = true) {K : Act → World → Prop} (hK : ∀ a w, RI P w0 φ0 n ops S0 vals mems (listed.setIfInBounds i true) a w → K a w) :
    if Region.wanted o (yielded ops a.tmps) then o.wp P a w K Q else K (a.put o.dst undef) w := by
  obtain ⟨φ, c, Mc, hle, hMc, R, heffs, hcur⟩ := I.st
  have his : i < ops.size := (Array.getElem?_eq_some_iff.1 ho).1
  have hil : i < listed.size := by rw [I.lsz]; exact his
  have hanc := anc_listed T.masks I.closed i ho haft
  obtain ⟨Mi, Mi', v, hMi, hv, hst, heff⟩ := T.at' i o ho
  have hclen : c ≤ (effsOf ops).length := by have := getElem?_lt hMc; rw [T.mlen, ← effs_length] at this; omega
  have hclosed' : Closed ops (listedB (listed.setIfInBounds i true)) := by
    intro j oj e hoj hlj he hb
    rw [listedB_set hil] at hlj ⊢
    split at hlj
    · rename_i hji
      subst hji
      rw [ho] at hoj; cases hoj
      split
      · rfl
      · exact haft e he hb
    · have := I.closed j oj e hoj hlj he hb
      split
      · rfl
      · exact this
  have hSR : ∀ vs : List XV, (∀ (j : Nat) (x : XV), vs[j]? = some x → vals[j]? = some x) → SR φ (dSlots ops p i S0 vs (looks ops o)) a.tmps := by
    intro vs hvs t x hx
    exact hcur t x (seen T I.closed ho hi hanc hvs (dSlots_get _ hx))
  have htake : ∀ (j : Nat) (x : XV), (vals.take i)[j]? = some x → vals[j]? = some x := by
    intro j x hx
    rw [List.getElem?_take] at hx
    split at hx
    · exact hx
    · cases hx
  -- behind it
  have fin : ∀ (c' : Nat) (Mn : Mem), mems[c']? = some Mn → (∀ (j e : Nat), (effsOf ops)[j]? = some e → (listedB (listed.setIfInBounds i true) e = true ↔ j < c')) →
      ∀ φ' u w', φ.le φ' → VX φ' v u → MR P φ' w0 Mn w' → K (a.put o.dst u) w' := by
    intro c' Mn hMn heffs' φ' u w' hle' hu R'
    refine hK _ _ ⟨?_, ?_, by simpa using I.lsz, hclosed', φ', c', Mn, Phi.le_trans hle hle', hMn, R', heffs', fun t x hx => ?_⟩
    · unfold Act.put; cases o.dst <;> exact I.df
    · unfold Act.put; cases o.dst <;> simp [I.sz]
    · unfold Act.put
      cases hd : o.dst with
      | none =>
        have hx' : curAt ops S0 vals (listedB listed) t = some x := by
          unfold curAt at hx ⊢
          split at hx
          · rename_i j hj
            rw [listedB_set hil] at hx
            have hji : j ≠ i := by
              rintro rfl
              obtain ⟨oj, hoj, hdj⟩ := writer_dst hj
              rw [Array.getElem?_toList, ho] at hoj
              cases hoj
              rw [hd] at hdj; cases hdj
            rw [if_neg hji] at hx
            exact hx
          · exact hx
        obtain ⟨z, hz, hzv⟩ := hcur t x hx'
        exact ⟨z, hz, hzv.mono hle'⟩
      | some d =>
        obtain ⟨hd1, hd2⟩ := T.dst i o d ho hd
        have hwd : writer ops.toList d = some i := writer_of _ T.nodup (by rw [Array.getElem?_toList]; exact ho) hd
        by_cases htd : t = d
        · subst htd
          unfold curAt at hx
          rw [hwd] at hx
          simp only at hx
          rw [listedB_set hil, if_pos rfl, if_pos rfl, hv] at hx
          cases hx
          exact ⟨u, by simp [I.sz, hd1], hu⟩
        · have hx' : curAt ops S0 vals (listedB listed) t = some x := by
            unfold curAt at hx ⊢
            split at hx
            · rename_i j hj
              rw [listedB_set hil] at hx
              have hji : j ≠ i := by
                rintro rfl
                obtain ⟨oj, hoj, hdj⟩ := writer_dst hj
                rw [Array.getElem?_toList, ho] at hoj
                cases hoj
                rw [hd] at hdj; cases hdj
                exact htd rfl
              rw [if_neg hji] at hx
              exact hx
            · exact hx
          obtain ⟨z, hz, hzv⟩ := hcur t x hx'
          refine ⟨z, ?_, hzv.mono hle'⟩
          simp only
          rw [Array.getElem?_setIfInBounds_ne (Ne.symm htd)]; exact hz
  cases he : effOp o.op with
  | true =>
    -- it is the next effect
    have hq := effs_at ho he
    have hcq : c = posOf (ops.toList.take i) := by
      have h1 : ¬ posOf (ops.toList.take i) < c := fun h => by
        have := (heffs _ _ hq).2 h
        rw [hi] at this; cases this
      have h2 : ¬ c < posOf (ops.toList.take i) := fun h => by
        have hlt := getElem?_lt hq
        obtain ⟨e', he'⟩ : ∃ e', (effsOf ops)[posOf (ops.toList.take i) - 1]? = some e' := ⟨_, List.getElem?_eq_getElem (by omega)⟩
        have hch := chain_at (q := posOf (ops.toList.take i) - 1) T.chain he' (by rw [show posOf (ops.toList.take i) - 1 + 1 = posOf (ops.toList.take i) by omega]; exact hq)
        have := (heffs _ _ he').1 (hanc e' hch)
        omega
      omega
    subst hcq
    rw [hMi] at hMc; cases hMc
    refine dStep_ok hY hC R (hSR _ htake) hst (fin _ Mi' (heff he) ?_)
    intro j e hje
    rw [listedB_set hil]
    by_cases hei : e = i
    · subst hei
      rw [if_pos rfl]
      have hjq : j = posOf (ops.toList.take e) := (List.getElem?_inj (getElem?_lt hje) effs_nodup).1 (hje.trans hq.symm)
      constructor
      · intro _; omega
      · intro _; rfl
    · rw [if_neg hei, heffs j e hje]
      have hjq : j ≠ posOf (ops.toList.take i) := fun h => by
        subst h
        rw [hq] at hje; cases hje; exact hei rfl
      omega
  | false =>
    have heffs' : ∀ (j e : Nat), (effsOf ops)[j]? = some e → (listedB (listed.setIfInBounds i true) e = true ↔ j < c) := by
      intro j e hje
      rw [listedB_set hil]
      have hei : e ≠ i := by
        rintro rfl
        obtain ⟨o', ho', he'⟩ := effs_mem.1 (List.mem_of_getElem? hje)
        rw [ho] at ho'; cases ho'
        rw [he] at he'; cases he'
      rw [if_neg hei]; exact heffs j e hje
    cases hr : readOp o.op with
    | false =>
      exact dStep_ok hY hC R (hSR _ htake) (dStep_pure he hr hst) (fin c Mc hMc heffs')
    | true =>
      -- it sees the same at every memory at which it may be carried out
      have hrd := T.reads
      unfold readsOK at hrd
      rw [List.all_eq_true] at hrd
      have h1 := hrd i (List.mem_range.2 his)
      rw [ho, hv] at h1
      simp only [hr, Bool.not_true, Bool.false_or] at h1
      rw [List.all_eq_true] at h1
      have hlo : (p.effs.takeWhile fun e => bit (p.anc.getD i 0) e).length ≤ c := by
        rw [T.peffs]
        rcases Nat.eq_zero_or_pos ((effsOf ops).takeWhile fun e => bit (p.anc.getD i 0) e).length with h0 | h0
        · omega
        · let l := (effsOf ops).takeWhile fun e => bit (p.anc.getD i 0) e
          have hl : l.length ≤ (effsOf ops).length := takeWhile_le _
          have hlast : l[l.length - 1]? = some l[l.length - 1] := List.getElem?_eq_getElem (by show l.length - 1 < l.length; have : 0 < l.length := h0; omega)
          have hb := takeWhile_mem _ _ (List.mem_of_getElem? hlast)
          have hpre : (effsOf ops)[l.length - 1]? = some l[l.length - 1] := by
            exact prefix_get (List.takeWhile_prefix _) hlast
          have := (heffs _ _ hpre).1 (hanc _ hb)
          show l.length ≤ c
          omega
      have hhi : c ≤ (p.effs.takeWhile fun e => !bit (p.anc.getD e 0) i).length := by
        rw [T.peffs]
        rcases Nat.lt_or_ge ((effsOf ops).takeWhile fun e => !bit (p.anc.getD e 0) i).length c with h0 | h0
        · exfalso
          let l := (effsOf ops).takeWhile fun e => !bit (p.anc.getD e 0) i
          have hlt : l.length < (effsOf ops).length := by have : l.length < c := h0; omega
          have hnx : bit (p.anc.getD (effsOf ops)[l.length] 0) i = true := by
            have h1 := takeWhile_stop (p := fun e => !bit (p.anc.getD e 0) i) (effsOf ops) hlt
            simp only [Bool.not_eq_false'] at h1
            exact h1
          have hlisted := (heffs l.length _ (List.getElem?_eq_getElem hlt)).2 h0
          have hin : (effsOf ops)[l.length] < ops.size := by
            obtain ⟨o', ho', _⟩ := effs_mem.1 (List.getElem_mem hlt)
            exact (Array.getElem?_eq_some_iff.1 ho').1
          have := anc_of_listed T.masks I.closed hin hlisted hnx
          rw [hi] at this; cases this
        · exact h0
      have h2 := h1 c (List.mem_range'_1.2 ⟨hlo, by omega⟩)
      rw [hMc] at h2
      simp only at h2
      split at h2
      · rename_i v' M1 hs
        have hvv := beqX_eq _ _ h2
        subst hvv
        have := dStep_keeps he hs
        subst this
        exact dStep_ok hY hC R (hSR _ (fun j x h => h)) hs (fin c _ hMc heffs')
      · cases h2
end
end Go.Proofs.YtcmaledchnhccaaGreatDoor

/-! That the executor follows the model: regions whose order is drawn: the whole. No condition. -/
namespace Go.Proofs.YtcmaledchnhccaaGreatDoor
open Go Go.RowKit

section
variable {P : Program} {φ φ0 : Phi} {w0 w w' : World} {Y : TYS} {S S0 S' : Tr XV} {M M' : Mem} {call : Caller} {ops : Array Oper} {p : Plan} {n : Nat} {vals : List XV} {mems : List Mem}

theorem Told.of (h : xDraw Y call n ops S M = some (S', M')) : ∃ p vals mems, Told Y call ops p n S vals mems ∧ mems[0]? = some M ∧ mems[posOf ops.toList]? = some M' ∧
    ∀ t, S'.get t = match writer ops.toList t with
      | some j => vals[j]?
      | none => S.get t := by
  unfold xDraw at h
  split at h
  · rename_i hp
    split at h
    · rename_i vals M1 mems hg
      split at h
      · rename_i hr
        split at h
        · rename_i S1 hput
          cases h
          obtain ⟨h1, _, ⟨t2, h3⟩, h4, h5, h6⟩ := dGo_facts ops.toList [] [] M [M] (by simp) rfl rfl rfl hg
          unfold planOK at hp
          simp only [Bool.and_eq_true, decide_eq_true_eq] at hp
          obtain ⟨⟨hm, hc⟩, hn⟩ := hp
          obtain ⟨p1, p2⟩ := dPut_ok ops.toList vals S hput (by simp [h1])
          refine ⟨planOf ops, vals, mems, ⟨hm, hc, rfl, hn, h1, h4, fun i o ho => h6 i o (Nat.zero_le _) (by simpa using ho), hr, fun i o d ho hd => p1 i o d (by simpa using ho) hd⟩, by rw [h3]; rfl, h5, p2 hn⟩
        · cases h
      · cases h
    · cases h
  · cases h

/-- how many are left -/
def unl (ops : Array Oper) (listed : Array Bool) : Nat := ((List.range ops.size).filter fun i => !listedB listed i).length
theorem filter_one (q r : Nat → Bool) (i : Nat) (hq : q i = true) (hr : ∀ j, r j = if j = i then false else q j) : ∀ l : List Nat, l.Nodup → i ∈ l → (l.filter r).length + 1 = (l.filter q).length
  | [], _, h => by cases h
  | x :: l, hn, h => by
    rw [List.nodup_cons] at hn
    have same : i ∉ l → l.filter r = l.filter q := fun hi => List.filter_congr fun j hj => by
      have : j ≠ i := fun h => hi (h ▸ hj)
      rw [hr, if_neg this]
    by_cases hx : x = i
    · subst hx
      have hrx : r x = false := by rw [hr, if_pos rfl]
      rw [List.filter_cons, List.filter_cons, hrx, hq, if_neg (by simp), if_pos rfl, same hn.1]
      rfl
    · have hi : i ∈ l := by
        rcases List.mem_cons.1 h with h | h
        · exact absurd h.symm hx
        · exact h
      have ih := filter_one q r i hq hr l hn.2 hi
      have hrx : r x = q x := by rw [hr, if_neg hx]
      rw [List.filter_cons, List.filter_cons, hrx]
      cases q x <;> simp <;> omega
theorem unl_set {listed : Array Bool} {i : Nat} (hi : i < ops.size) (hs : listed.size = ops.size) (hl : listedB listed i = false) : unl ops (listed.setIfInBounds i true) + 1 = unl ops listed := by
  unfold unl
  refine filter_one _ _ i (by rw [hl]; rfl) (fun j => ?_) _ List.nodup_range (List.mem_range.2 hi)
  rw [listedB_set (by omega)]
  split <;> simp

theorem all_listed {listed : Array Bool} (hm : masksOK ops.toList p.anc = true) (hs : listed.size = ops.size) (h : Region.ready .any ops listed = []) : ∀ i, i < ops.size → listedB listed i = true := by
  intro i
  induction i using Nat.strongRecOn with
  | _ i ih =>
    intro hi
    cases hl : listedB listed i with
    | true => rfl
    | false =>
      exfalso
      have ho : ops[i]? = some ops[i] := Array.getElem?_eq_getElem hi
      have hmem : i ∈ Region.ready .any ops listed := by
        unfold Region.ready
        rw [List.mem_filter, List.mem_range]
        refine ⟨hi, ?_⟩
        rw [ho]
        simp only [Bool.and_eq_true, Option.map_some, Option.getD_some, Bool.not_eq_true']
        refine ⟨?_, ?_⟩
        · unfold listedB at hl
          rw [Array.getD_eq_getD_getElem?] at hl ⊢
          rw [Array.getElem?_eq_getElem (by omega)] at hl ⊢
          exact hl
        · rw [Array.all_eq_true']
          intro e he
          cases hb : Region.binds .any e with
          | false => rfl
          | true =>
            have hlt := (masks_at hm ho).1 e (by simpa using he) hb
            have := ih e.on hlt (by omega)
            unfold listedB at this
            simp [this]
      rw [h] at hmem
      cases hmem

theorem wpAny_RI (hY : YOK2 P Y) (hC : CallOK P w0 call) (T : Told Y call ops p n S0 vals mems) {Q : Exit → Act → World → Prop}
    (hfin : ∀ listed a w, RI P w0 φ0 n ops S0 vals mems listed a w → (∀ i, i < ops.size → listedB listed i = true) → Q .normal a w) : ∀ (fuel : Nat) (listed : Array Bool) (a : Act) (w : World), unl ops listed ≤ fuel → RI P w0 φ0 n ops S0 vals mems listed a w → wpAny P .any ops Q fuel listed a w
  | 0, listed, a, w, hu, I => by
    have hr : Region.ready .any ops listed = [] := by
      cases h : Region.ready .any ops listed with
      | nil => rfl
      | cons i is =>
        exfalso
        obtain ⟨o, ho, hl, _⟩ := ready_at (i := i) (by rw [h]; simp) I.lsz
        have := unl_set (Array.getElem?_eq_some_iff.1 ho).1 I.lsz hl
        omega
    exact ⟨hr, hfin _ _ _ I (all_listed T.masks I.lsz hr)⟩
  | fuel + 1, listed, a, w, hu, I => by
    refine ⟨fun hr => hfin _ _ _ I (all_listed T.masks I.lsz hr), fun i hi => ?_⟩
    obtain ⟨o, ho, hl, haft⟩ := ready_at hi I.lsz
    have hset := unl_set (Array.getElem?_eq_some_iff.1 ho).1 I.lsz hl
    have := RI_step (Q := Q) (K := wpAny P .any ops Q fuel (listed.setIfInBounds i true)) hY hC T I ho hl haft (fun a w I' => wpAny_RI hY hC T hfin fuel _ a w (by omega) I')
    unfold wpOp
    rw [ho]
    simp only
    split
    · rename_i hw; rw [if_pos hw] at this; exact .inl this
    · rename_i hw; rw [if_neg hw] at this; exact this

theorem draw_ok (hY : YOK2 P Y) (hm : P.follows .mixedOrders = true) : DrawOK P w0 (xDraw Y) := by
  intro call hC n ops S M S' M' φ0 a w id Q h I hQ
  obtain ⟨p, vals, mems, T, hM0, hMe, hS'⟩ := Told.of h
  obtain ⟨hd, hn, φ, hle, hS, R⟩ := I
  refine wp_region_any hm (wpAny_RI (p := p) (n := n) (S0 := S) (vals := vals) (mems := mems) (φ0 := φ0) (w0 := w0) hY hC T ?_ _ _ _ _ ?_ ?_)
  · rintro listed a w ⟨hd, hn, hsz, hcl, φ, c, Mc, hle, hMc, R, heffs, hcur⟩ hall
    have hce : c = posOf ops.toList := by
      have h1 : c ≤ posOf ops.toList := by have := getElem?_lt hMc; rw [T.mlen] at this; omega
      rcases Nat.lt_or_ge c (posOf ops.toList) with h2 | h2
      · exfalso
        rw [← effs_length] at h2
        have he := List.getElem?_eq_getElem h2
        obtain ⟨o, ho, _⟩ := effs_mem.1 (List.getElem_mem h2)
        have := (heffs c _ he).1 (hall _ (Array.getElem?_eq_some_iff.1 ho).1)
        omega
      · omega
    subst hce
    rw [hMe] at hMc; cases hMc
    refine hQ a w ⟨hd, hn, φ, hle, fun t x hx => hcur t x ?_, R⟩
    rw [hS'] at hx
    unfold curAt
    cases hj : writer ops.toList t with
    | some j =>
      rw [hj] at hx
      simp only at hx ⊢
      obtain ⟨oj, hoj, _⟩ := writer_dst hj
      have hjs : j < ops.size := by have := getElem?_lt hoj; simpa using this
      rw [if_pos (hall j hjs)]; exact hx
    | none =>
      rw [hj] at hx
      exact hx
  · unfold unl
    exact Nat.le_trans (List.length_filter_le _ _) (by simp)
  · have hlf : ∀ i, listedB (Array.replicate ops.size false) i = false := fun i => by
      unfold listedB
      rw [Array.getD_eq_getD_getElem?, Array.getElem?_replicate]
      split <;> rfl
    refine ⟨hd, hn, by simp, (fun i o e _ hl => by rw [hlf] at hl; cases hl), φ, 0, M, hle, hM0, R.world rfl rfl rfl rfl, fun j e _ => ?_, fun t x hx => ?_⟩
    · rw [hlf]; simp
    · refine hS t x ?_
      unfold curAt at hx
      split at hx
      · rw [hlf] at hx; exact hx
      · exact hx
end
end Go.Proofs.YtcmaledchnhccaaGreatDoor

/-! That the executor follows the model: functions without a body. No condition. -/
namespace Go.Proofs.YtcmaledchnhccaaGreatDoor
open Go Go.RowKit

/-- what is to be known of a function without a body -/
structure Bare (P : Program) (f : FuncId) (e : Array Value → Sem Value) : Prop where
  mk' : ∃ fn : Func, P.funcs[f]? = some fn ∧ (fn.name == "runtime.NumGoroutine") = false ∧ fn.body.isNone = true ∧ (Extern.findNext fn).isNone = true ∧ Extern.find fn = some e

section
variable {P : Program} {f : FuncId}

theorem Bare.run {e : Array Value → Sem Value} (h : Bare P f e) (args : Array Value) (w : World) : (callFunc f args).run P w = ((e args).run P w).andThen fun v w' => .ok (.value v) w' := by
  obtain ⟨fn, h1, h2, h3, h4, h5⟩ := h.mk'
  exact run_callFunc_extern h1 h2 h3 (by simpa using h4) h5 args w

theorem LX.one {φ : Phi} {x : XV} {vs : Array Value} (h : LX φ [x] vs) : ∃ v, vs = #[v] ∧ VX φ x v := by
  obtain ⟨v, hv, hx⟩ := h.get (j := 0) (x := x) rfl
  refine ⟨v, ?_, hx⟩
  have hs := h.1
  apply Array.ext
  · simpa using hs
  · intro i h1 h2
    simp at h2
    subst h2
    simpa using (Array.getElem?_eq_some_iff.1 hv).2
theorem LX.two {φ : Phi} {x y : XV} {vs : Array Value} (h : LX φ [x, y] vs) : ∃ v u, vs = #[v, u] ∧ VX φ x v ∧ VX φ y u := by
  obtain ⟨v, hv, hx⟩ := h.get (j := 0) (x := x) rfl
  obtain ⟨u, hu, hy⟩ := h.get (j := 1) (x := y) rfl
  refine ⟨v, u, ?_, hx, hy⟩
  have hs := h.1
  apply Array.ext
  · simpa using hs
  · intro i h1 h2
    match i, h2 with
    | 0, _ => simpa using (Array.getElem?_eq_some_iff.1 hv).2
    | 1, _ => simpa using (Array.getElem?_eq_some_iff.1 hu).2

theorem ext_indexByte (h : Bare P f Extern.BytealgIndexByte.indexByte) : ExtOK P f .indexByte := by
  intro φ w0 w M M' args vs r hx R hargs
  unfold xExt at hx
  split at hx
  · rename_i s c _
    cases hx
    obtain ⟨v, u, rfl, hv, hu⟩ := hargs.two
    cases hv with
    | str b =>
      cases hu with
      | int k n =>
        refine .inr ⟨_, w, ?_, φ, Phi.le_refl _, .int .i64 _, R⟩
        rw [h.run, run_indexByte_string, Lib.firstIdx_eq]
        rfl
  all_goals first
    | (rename_i hk _; cases hk; done)
    | (rename_i hk; cases hk; done)
    | cases hx
theorem ext_cmpString (h : Bare P f Extern.BytealgCompare.compare) : ExtOK P f .cmpString := by
  intro φ w0 w M M' args vs r hx R hargs
  unfold xExt at hx
  split at hx
  case h_2 =>
    cases hx
    obtain ⟨v, u, rfl, hv, hu⟩ := hargs.two
    cases hv with
    | str b =>
      cases hu with
      | str c =>
        refine .inr ⟨_, w, ?_, φ, Phi.le_refl _, .int .i64 _, R⟩
        rw [h.run, Lib.run_compareString]
        rfl
  all_goals first
    | (rename_i hk _; cases hk; done)
    | (rename_i hk; cases hk; done)
    | cases hx
theorem ext_noEscape (h : Bare P f Extern.AbiNoEscape.same) : ExtOK P f .noEscape := by
  intro φ w0 w M M' args vs r hx R hargs
  unfold xExt at hx
  split at hx
  case h_3 =>
    cases hx
    obtain ⟨v, rfl, hv⟩ := hargs.one
    refine .inr ⟨v, w, ?_, φ, Phi.le_refl _, hv, R⟩
    rw [h.run]
    rfl
  all_goals first
    | (rename_i hk _; cases hk; done)
    | (rename_i hk; cases hk; done)
    | cases hx
theorem ext_makeNoZero {ps : Array TypeId} {t e : TypeId} (h : Bare P f (Extern.BytealgMakeNoZero.makeNoZero ps #[t])) (ht : P.underlying t = some (.slice e)) (hc : P.cellsOf e = 1) : ExtOK P f (.makeNoZero e) := by
  intro φ w0 w M M' args vs r hx R hargs
  unfold xExt at hx
  split at hx
  case h_5 =>
    rename_i hk
    cases hk
    split at hx
    · rename_i n _ hn
      obtain ⟨v, rfl, hv⟩ := hargs.one
      cases hv with
      | int k m =>
        obtain ⟨n', rfl⟩ := Int.eq_ofNat_of_zero_le hn.1
        obtain ⟨cs, hr, h1, h2⟩ := Lib.run_makeNoZero (P := P) w ps t e ht n' (by omega)
        obtain ⟨φ', hv', hle, R'⟩ := xOpen_ok R (e := e) (s := 1) (len := n') (cap := cs.size) (cells := []) (arr := cs) ⟨by simp, by simp, by simp, by simp, fun _ => ⟨by simp [hc], h2 (by unfold maxLen; omega)⟩⟩ h1 (by simpa using hx)
          (w' := w.drew.drew.alloc (.cells cs e)) rfl rfl rfl rfl
        refine .inr ⟨_, _, ?_, φ', hle, hv', R'⟩
        rw [h.run, hr]
        rfl
    · cases hx
  all_goals first
    | (rename_i hk _; cases hk; done)
    | (rename_i hk; cases hk; done)
    | cases hx
end
end Go.Proofs.YtcmaledchnhccaaGreatDoor

/-! The tables of the executor, out of a program; from a run of the executor to a call of the program. No condition. -/
namespace Go.Proofs.YtcmaledchnhccaaGreatDoor
open Go Go.RowKit

def zOfL : List Value → Option (List XV)
  | [] => some []
  | v :: vs => match xConst v, zOfL vs with
    | some x, some xs => some (x :: xs)
    | _, _ => none
/-- what is to be known of the types of a program -/
def Yof (P : Program) : TYS := fun T => match P.info? T, P.underlying T with
  | some i, some d => some ⟨d, P.cellsOf T, P.bytesOf T, i.zero.bind fun v => zOfL v.cells.toList, liesAt P P.depth T 1 0 T 1, eqTags P T⟩
  | _, _ => none
/-- the functions of a program; 'x': those that are told otherwise -/
def Fof (P : Program) (x : Nat → Option XK) : FNS := fun f => match x f with
  | some k => some (.ext k)
  | none => (match P.funcs[f]? with
    | some fn => (match fn.body with
      | some c => some (.go c fn.ntmps fn.results.toList)
      | none => none)
    | none => none)

section
variable {P : Program}

theorem xConst_sc {v : Value} {x : XV} (h : xConst v = some x) : x.sc = true := by
  unfold xConst at h
  split at h <;> cases h <;> rfl
theorem zOfL_ok : ∀ (vs : List Value) {zs : List XV}, zOfL vs = some zs → zs.length = vs.length ∧ allSc zs = true ∧ ∀ (j : Nat) (x : XV) (c : Value), zs[j]? = some x → vs[j]? = some c → VX (fun _ => none) x c
  | [], zs, h => by cases h; exact ⟨rfl, rfl, by simp⟩
  | v :: vs, zs, h => by
    unfold zOfL at h
    split at h
    · rename_i x xs hx hxs
      cases h
      obtain ⟨h1, h2, h3⟩ := zOfL_ok vs hxs
      refine ⟨by simp [h1], by simp only [allSc, List.all_cons, xConst_sc hx, Bool.true_and]; exact h2, fun j y c hy hc => ?_⟩
      cases j with
      | zero => simp at hy hc; subst hy hc; exact xConst_ok hx
      | succ j => simp at hy hc; exact h3 j y c hy hc
    · cases h
theorem Yof_ok : YOK2 P (Yof P) := by
  have key : ∀ T y, Yof P T = some y → ∃ i d, P.info? T = some i ∧ P.underlying T = some d ∧ y = ⟨d, P.cellsOf T, P.bytesOf T, i.zero.bind fun v => zOfL v.cells.toList, liesAt P P.depth T 1 0 T 1, eqTags P T⟩ := by
    intro T y h
    unfold Yof at h
    split at h
    · rename_i i d hi hd; cases h; exact ⟨i, d, hi, hd, rfl⟩
    · cases h
  refine { ok := ?_, zero := ?_, eqs := ?_, lies := ?_ }
  · intro T y h
    obtain ⟨i, d, hi, hd, rfl⟩ := key T y h
    exact ⟨hd, rfl, rfl, i, hi⟩
  · intro T y z h hz
    obtain ⟨i, d, hi, hd, rfl⟩ := key T y h
    simp only [Option.bind_eq_some_iff] at hz
    obtain ⟨v, hv, hz⟩ := hz
    obtain ⟨h1, h2, h3⟩ := zOfL_ok _ hz
    exact ⟨v, ⟨i, hi, hv⟩, ⟨by simpa using h1.symm, fun j x c hx hc => h3 j x c hx (by simpa using hc)⟩, h2⟩
  · intro T y ts h he
    obtain ⟨i, d, hi, hd, rfl⟩ := key T y h
    exact he
  · intro T y h hu
    obtain ⟨i, d, hi, hd, rfl⟩ := key T y h
    exact hu
theorem Fof_ok {x : Nat → Option XK} (hn : ∀ (f : Nat) (fn : Func), P.funcs[f]? = some fn → (fn.name == "runtime.NumGoroutine") = false) (hx : ∀ f k, x f = some k → ExtOK P f k) : FOK P (Fof P x) := by
  intro f fn h
  unfold Fof at h
  split at h
  · rename_i k hk; cases h; exact hx f k hk
  · split at h
    · rename_i fn0 hf
      split at h
      · rename_i c hc
        cases h
        exact ⟨fn0, hf, hn f fn0 hf, hc, rfl, rfl⟩
      · cases h
    · cases h
theorem names_ok (h : (P.funcs.toList.all fun fn => !(fn.name == "runtime.NumGoroutine")) = true) : ∀ (f : Nat) (fn : Func), P.funcs[f]? = some fn → (fn.name == "runtime.NumGoroutine") = false := by
  intro f fn hf
  have hm : fn ∈ P.funcs.toList := by
    rw [← Array.getElem?_toList] at hf
    exact List.mem_of_getElem? hf
  have := List.all_eq_true.1 h fn hm
  simpa using this

/-- a call of a function with a body -/
theorem xCall_go {w0 : World} {Y : TYS} {F : FNS} {run : Nat → Code → Tr XV → Mem → Option (Exit × Tr XV × Mem)} (hY : YOK2 P Y) (hF : FOK P F) (hR : RunOK P w0 run) {f : FuncId} {code : Code} {nt : Nat} {rs : List ResultVar} (hf : F f = some (.go code nt rs))
    {args : List XV} {M M' : Mem} {r : XV} (h : xCall Y F run f args M = some (r, M')) {φ : Phi} {w : World} {vs : Array Value} (R : MR P φ w0 M w) (hargs : LX φ args vs) :
    Enters P f ∧ Calls P f vs w fun e w' => ∃ v, e = .returned v ∧ Back P w0 φ r M' v w' := by
  rcases xCall_ok hY hF hR f args M r M' h φ w vs R hargs with h | ⟨v, w', hr, _⟩
  · exact h
  · exfalso
    obtain ⟨fn0, hf0, hname, hb, _⟩ := hF f _ hf
    have h1 : fn0.name ≠ "runtime.NumGoroutine" := by simpa using hname
    simp [callFunc, hf0, h1, hb] at hr

theorem MR.start {w : World} : MR P (fun _ => none) w ⟨0, .nil⟩ w where
  live := fun g b h => by cases h
  alias := fun g h b b' p q hg => by cases hg
  dom := fun _ _ => rfl
  lim := by decide
  mlim := fun g b h hg => by cases hg
  fr := ⟨rfl, rfl, rfl, Nat.le_refl _, fun _ _ _ => rfl⟩

/-- a closed function, carried out by the executor, does just that in whatever world -/
theorem closed_run {x : Nat → Option XK} (hm : P.follows .mixedOrders = true) (hn : (P.funcs.toList.all fun fn => !(fn.name == "runtime.NumGoroutine")) = true) (hx : ∀ f k, x f = some k → ExtOK P f k) {f : FuncId} {fuel : Nat} {b : Bool}
    (hf : (match Fof P x f with | some (.go ..) => true | _ => false) = true) (h : (match xCall (Yof P) (Fof P x) (exec (Yof P) (Fof P x) fuel) f [] ⟨0, .nil⟩ with | some (.bool c, _) => c == b | _ => false) = true) (w : World) :
    Enters P f ∧ Calls P f #[] w fun e w' => e = .returned (.bool b) ∧ Fr w [] w' := by
  have hF := Fof_ok (x := x) (names_ok hn) hx
  split at h
  · rename_i c M' hc
    split at hf
    · rename_i code nt rs hfn
      obtain ⟨h1, h2⟩ := xCall_go Yof_ok hF (exec_ok (w0 := w) Yof_ok hF (draw_ok Yof_ok hm) fuel) hfn hc MR.start (vs := #[]) ⟨rfl, by simp⟩
      refine ⟨h1, h2.mono fun e w' ⟨v, he, φ', _, hv, R'⟩ => ?_⟩
      have := VX_bool hv
      subst this
      rw [he, eq_of_beq h]
      exact ⟨rfl, R'.fr⟩
    · cases hf
  · cases h
end
end Go.Proofs.YtcmaledchnhccaaGreatDoor

/-! The executor once more, in a form that the kernel reduces with little waste; it is the same function. No condition. -/
namespace Go.Proofs.YtcmaledchnhccaaGreatDoor
open Go Go.RowKit

abbrev KS := TYS → Tr XV → Mem → Option (Option XV × Mem)
def kMove (x : Operand) : KS := fun _ S M => same M (ev S x)
def kPick (c x y : Operand) : KS := fun _ S M => match ev S c with
  | some (.bool b) => same M (ev S (if b then x else y))
  | _ => none
def kAlloc (T : TypeId) : KS := fun Y _ M => match Y T with
  | some y => (match y.z with
    | some z => both (xNew M T z)
    | none => none)
  | none => none
def kBox (T : TypeId) (x : Operand) : KS := fun _ S M => match ev S x with
  | some v => both (xNew M T v.cells)
  | none => none
def kBuild (T : TypeId) (parts : Array (Nat × Operand)) : KS := fun Y S M => same M (xBuild Y S T parts.toList)
def kBuildSlice (T : TypeId) (len : Nat) (parts : Array (Nat × Operand)) : KS := fun Y S M => both (xBuildSlice Y S M T len parts.toList)
def kLoad (T : TypeId) (x : Operand) : KS := fun Y S M => match ev S x with
  | some v => same M (xLoad Y M T v)
  | none => none
def kStore (T : TypeId) (x y : Operand) : KS := fun Y S M => match ev S x, ev S y with
  | some v, some u => (match xStore Y M T v u with
    | some M' => some (none, M')
    | none => none)
  | _, _ => none
def kNilCheck (x : Operand) : KS := fun _ S M => match ev S x with
  | some (.ptr g o) => some (some (.ptr g o), M)
  | some (.fn f cs) => some (some (.fn f cs), M)
  | _ => none
def kBin (op : BinOp) (T : TypeId) (x y : Operand) : KS := fun Y S M => match ev S x, ev S y with
  | some v, some u => same M (xBin Y op T (isConst y) v u)
  | _, _ => none
def kUn (op : UnOp) (x : Operand) : KS := fun _ S M => match ev S x with
  | some v => same M (xUn op v)
  | none => none
def kConv (s d : TypeId) (x : Operand) : KS := fun Y S M => match ev S x with
  | some v => same M (xConv Y M s d v)
  | none => none
def kFunc (f : FuncId) (first captured : Array Operand) : KS := fun _ S M => match first.toList, evs S captured.toList with
  | [], some ys => some (some (.fn f ys), M)
  | _, _ => none
def kMakeFunc (fn : Fn) (first captured : Array Operand) : KS := match fn with
  | .func f => kFunc f first captured
  | _ => fun _ _ _ => none
def kMake (T : TypeId) (l c : Operand) : KS := fun Y S M => match ev S l, ev S c with
  | some l, some c => both (xMake Y M T l c)
  | _, _ => none
def kSlice (T : TypeId) (x : Operand) (lo hi mx : Option Operand) : KS := fun Y S M => match ev S x with
  | some v => same M (xSlice Y S T v lo hi mx)
  | none => none
def kFieldAddr (T : TypeId) (x : Operand) (f : Nat) : KS := fun Y S M => match ev S x with
  | some v => same M (xFieldAddr Y T v f)
  | none => none
def kField (T : TypeId) (x : Operand) (f : Nat) : KS := fun Y S M => match ev S x with
  | some v => same M (xField Y T v f)
  | none => none
def kIndexAddr (T : TypeId) (x i : Operand) : KS := fun Y S M => match ev S x, ev S i with
  | some v, some i => same M (xIndexAddr Y T v i)
  | _, _ => none
def kIndex (T : TypeId) (x i : Operand) : KS := fun Y S M => match ev S x, ev S i with
  | some v, some i => same M (xIndex Y T v i)
  | _, _ => none
def kExtract (x : Operand) (i : Nat) : KS := fun _ S M => match ev S x with
  | some v => same M (xExtract v i)
  | none => none
def kNone : KS := fun _ _ _ => none
/-- a builtin's call -/
def kBuiltin (b : Builtin) (Ts : List TypeId) (xs : List Operand) : KS := fun Y S M => match b, Ts, xs with
  | .len, [T], [x] => (match ev S x with
    | some v => same M (xLen Y T v)
    | none => none)
  | .cap, [T], [x] => (match ev S x with
    | some v => same M (xCap Y T v)
    | none => none)
  | .append, [T, T'], [x, y] => (match ev S x, ev S y with
    | some v, some u => if T' = T then both (xAppend Y M T v u) else (match Y T' with
      | some t' => (match t'.d with
        | .string => both (xAppend Y M T v u)
        | _ => none)
      | none => none)
    | _, _ => none)
  | .unsafeSliceData, _, [x] => (match ev S x with
    | some v => same M (xSliceData v)
    | none => none)
  | .unsafeString, [T, _], [x, y] => (match ev S x, ev S y with
    | some v, some u => if isPtr v then both (xToText Y M T v u) else none
    | _, _ => none)
  | .copy, [T, _], [x, y] => (match ev S x, ev S y with
    | some v, some u => both (xCopy Y M T v u)
    | _, _ => none)
  | .max, _, [x, y] => (match ev S x, ev S y with
    | some v, some u => same M (xMinMax true v u)
    | _, _ => none)
  | .min, _, [x, y] => (match ev S x, ev S y with
    | some v, some u => same M (xMinMax false v u)
    | _, _ => none)
  | _, _, _ => none
def kCallee (c : Callee) (Ts : Array TypeId) (xs : Array Operand) : KS := match c with
  | .builtin b => kBuiltin b Ts.toList xs.toList
  | _ => kNone
def kop (o : Op) : KS := match o with
  | .move x => kMove x
  | .assign x => kMove x
  | .pick c x y => kPick c x y
  | .alloc T => kAlloc T
  | .box T x => kBox T x
  | .build T parts => kBuild T parts
  | .buildSlice T len parts => kBuildSlice T len parts
  | .load T x => kLoad T x
  | .store T x y => kStore T x y
  | .nilCheck x => kNilCheck x
  | .binOp op T x y _ => kBin op T x y
  | .unOp op _ x => kUn op x
  | .convert s d x => kConv s d x
  | .makeFunc f first captured => kMakeFunc f first captured
  | .makeSlice T l c => kMake T l c
  | .slice T x lo hi mx => kSlice T x lo hi mx
  | .fieldAddr T x f => kFieldAddr T x f
  | .field T x f => kField T x f
  | .indexAddr T x i => kIndexAddr T x i
  | .index T x i => kIndex T x i
  | .extract x i => kExtract x i
  | .call c => kCallee c.callee c.argTypes c.args
  | _ => kNone
theorem kop_eq (o : Op) (Y : TYS) (S : Tr XV) (M : Mem) : kop o Y S M = xop Y S M o := by
  cases o
  case call c =>
    simp only [kop, xop]
    cases c.callee <;> rfl
  case makeFunc fn first captured => cases fn <;> rfl
  all_goals rfl

/-- whom an operation calls -/
def whom (o : Op) : Option (Operand × List Operand) := match o with
  | .call c => (match c.callee with
    | .value fo => some (fo, c.args.toList)
    | _ => none)
  | _ => none
def isCall (o : Op) : Bool := match o with
  | .call _ => true
  | _ => false
def kPut (n : Nat) (S : Tr XV) (d : Option Nat) (v : XV) (M : Mem) : Option (Tr XV × Mem) := match dput n S d v with
  | some S' => some (S', M)
  | none => none
def kDone (n : Nat) (S : Tr XV) (d : Option Nat) (r : Option (XV × Mem)) : Option (Tr XV × Mem) := match r with
  | some (v, M) => kPut n S d v M
  | none => none
def kPlain (cl : Bool) (n : Nat) (S : Tr XV) (d : Option Nat) (r : Option (Option XV × Mem)) : Option (Tr XV × Mem) := match r with
  | some (some v, M) => kPut n S d v M
  | some (none, M) => if cl then none else kPut n S d (.tup []) M
  | none => none
def kCallF (call : Caller) (M : Mem) (xs : List XV) (v : XV) : Option (XV × Mem) := match v with
  | .fn f caps => call f (xs ++ caps) M
  | _ => none
def kCall (call : Caller) (M : Mem) (fo : Option XV) (xs : Option (List XV)) : Option (XV × Mem) := match fo, xs with
  | some v, some xs => kCallF call M xs v
  | _, _ => none
def kStep (Y : TYS) (call : Caller) (n : Nat) (o : Oper) (S : Tr XV) (M : Mem) : Option (Tr XV × Mem) := match whom o.op with
  | some (fo, xs) => kDone n S o.dst (kCall call M (ev S fo) (evs S xs))
  | none => kPlain (isCall o.op) n S o.dst (kop o.op Y S M)
theorem kStep_eq (Y : TYS) (call : Caller) (n : Nat) (o : Oper) (S : Tr XV) (M : Mem) : kStep Y call n o S M = xStep Y call n o S M := by
  unfold kStep xStep
  have plain : ∀ cl, cl = false → kPlain cl n S o.dst (kop o.op Y S M) = (match xop Y S M o.op with
    | some (some v, M') => (match dput n S o.dst v with
      | some S' => some (S', M')
      | none => none)
    | some (none, M') => (match dput n S o.dst (.tup []) with
      | some S' => some (S', M')
      | none => none)
    | none => none) := by
    intro cl hcl
    rw [kop_eq, hcl]
    rcases xop Y S M o.op with _ | ⟨_ | v, M'⟩ <;> rfl
  cases ho : o.op
  case call c =>
    simp only [whom, isCall]
    cases hc : c.callee
    case value fo =>
      simp only
      rcases ev S fo with _ | v
      · rcases evs S c.args.toList with _ | xs <;> rfl
      · cases v
        case fn f caps =>
          rcases evs S c.args.toList with _ | xs
          · rfl
          · simp only [kCall, kCallF, kDone]
            rcases call f (xs ++ caps) M with _ | ⟨v, M'⟩ <;> rfl
        all_goals (rcases evs S c.args.toList with _ | xs <;> rfl)
    all_goals
      simp only
      rw [kop_eq]
      rcases xop Y S M (.call c) with _ | ⟨_ | v, M'⟩ <;> rfl
  all_goals
    simp only [whom, isCall]
    have := plain false rfl
    rw [ho] at this
    exact this

def kThen (ih : Tr XV → Mem → Option (Tr XV × Mem)) (r : Option (Tr XV × Mem)) : Option (Tr XV × Mem) := match r with
  | some (S, M) => ih S M
  | none => none
def kOne (Y : TYS) (call : Caller) (n : Nat) (o : Oper) (ih : Tr XV → Mem → Option (Tr XV × Mem)) (S : Tr XV) (M : Mem) (wt : Option Bool) : Option (Tr XV × Mem) := match wt with
  | some true => kThen ih (kStep Y call n o S M)
  | some false => kThen ih (kPut n S o.dst (.tup []) M)
  | none => none
noncomputable def kOps (Y : TYS) (call : Caller) (n : Nat) (ops : Array Oper) (l : List Oper) : Tr XV → Mem → Option (Tr XV × Mem) :=
  @List.rec Oper (fun _ => Tr XV → Mem → Option (Tr XV × Mem)) (fun S M => some (S, M)) (fun o _ ih S M => kOne Y call n o ih S M (xWanted ops S o)) l
theorem kOps_eq (Y : TYS) (call : Caller) (n : Nat) (ops : Array Oper) : ∀ (l : List Oper) (S : Tr XV) (M : Mem), kOps Y call n ops l S M = xOps Y call n ops l S M
  | [], S, M => rfl
  | o :: l, S, M => by
    show kOne Y call n o (kOps Y call n ops l) S M (xWanted ops S o) = _
    unfold xOps kOne
    rw [kStep_eq]
    rcases xWanted ops S o with _ | _ | _
    · rfl
    · simp only [kPut]
      rcases dput n S o.dst (.tup []) with _ | S'
      · rfl
      · exact kOps_eq Y call n ops l _ _
    · simp only
      rcases xStep Y call n o S M with _ | ⟨S', M'⟩
      · rfl
      · exact kOps_eq Y call n ops l _ _

abbrev KR := Option (Exit × Tr XV × Mem)
abbrev KC := TYS → FNS → (Nat → Code → Tr XV → Mem → KR) → Nat → Tr XV → Mem → KR
def kNorm (r : Option (Tr XV × Mem)) : KR := match r with
  | some (S, M) => some (.normal, S, M)
  | none => none
def kcSkip : KC := fun _ _ _ _ S M => some (.normal, S, M)
noncomputable def kcReg (ops : Array Oper) : KC := fun Y F ih n S M => kNorm (kOps Y (xCall Y F ih) n ops ops.toList S M)
def kcDraw (ops : Array Oper) : KC := fun Y F ih n S M => kNorm (xDraw Y (xCall Y F ih) n ops S M)
noncomputable def kcRegion (ops : Array Oper) (d : Bool) : KC := match d with
  | false => kcReg ops
  | true => kcDraw ops
def kcSeq (x y : Code) : KC := fun _ _ ih n S M => match ih n x S M with
  | some (.normal, S', M') => ih n y S' M'
  | r => r
def kcCond (t : Operand) (x y : Code) : KC := fun _ _ ih n S M => match ev S t with
  | some (.bool true) => ih n x S M
  | some (.bool false) => ih n y S M
  | _ => none
def kcBlock (id : Nat) (c : Code) : KC := fun _ _ ih n S M => match ih n c S M with
  | some (.exit id', S', M') => if id' = id then some (.normal, S', M') else some (.exit id', S', M')
  | r => r
def kcLoop (b : Code) : KC := fun _ _ ih n S M => match ih n b S M with
  | some (.normal, S', M') => ih n (.loop b) S' M'
  | r => r
def kcExit (id : Nat) : KC := fun _ _ _ _ S M => some (.exit id, S, M)
def kcScope (c : Code) : KC := fun _ _ ih n S M => ih n c S M
def kcRet : KC := fun _ _ _ _ S M => some (.ret, S, M)
def kcNone : KC := fun _ _ _ _ _ _ => none
noncomputable def kCode (c : Code) : KC := match c with
  | .skip => kcSkip
  | .region _ ops d => kcRegion ops d
  | .seq x y => kcSeq x y
  | .cond t x y => kcCond t x y
  | .block id c => kcBlock id c
  | .loop b => kcLoop b
  | .exit id => kcExit id
  | .scope c => kcScope c
  | .label _ => kcSkip
  | .ret => kcRet
  | _ => kcNone
noncomputable def kexec (Y : TYS) (F : FNS) (fuel : Nat) : Nat → Code → Tr XV → Mem → KR :=
  @Nat.rec (fun _ => Nat → Code → Tr XV → Mem → KR) (fun _ _ _ _ => none) (fun _ ih n c S M => kCode c Y F ih n S M) fuel

theorem kexec_eq (Y : TYS) (F : FNS) : ∀ fuel, kexec Y F fuel = exec Y F fuel
  | 0 => rfl
  | fuel + 1 => by
    funext n c S M
    show kCode c Y F (kexec Y F fuel) n S M = _
    rw [kexec_eq Y F fuel]
    unfold exec
    cases c
    case region id ops d =>
      cases d
      · show kNorm (kOps Y _ n ops ops.toList S M) = _
        rw [kOps_eq]
        simp only
        rcases xOps Y (xCall Y F (exec Y F fuel)) n ops ops.toList S M with _ | ⟨S', M'⟩ <;> rfl
      · show kNorm (xDraw Y _ n ops S M) = _
        simp only
        rcases xDraw Y (xCall Y F (exec Y F fuel)) n ops S M with _ | ⟨S', M'⟩ <;> rfl
    all_goals rfl
end Go.Proofs.YtcmaledchnhccaaGreatDoor

/-! A function whose answers hang on no memory may be told by a table of runs. No condition. -/
namespace Go.Proofs.YtcmaledchnhccaaGreatDoor
open Go Go.RowKit

/-- no memory hangs on it -/
def clo : XV → Bool
  | .int .. | .bool _ | .str _ | .nilp | .nils | .nilf | .nili => true
  | .agg cs => cloL cs
  | .tup cs => cloL cs
  | .ifc _ x => clo x
  | _ => false
where cloL : List XV → Bool
  | [] => true
  | x :: xs => clo x && cloL xs

theorem cloL_at : ∀ {xs : List XV} {j : Nat} {x : XV}, clo.cloL xs = true → xs[j]? = some x → clo x = true
  | [], j, x, h, hx => by simp at hx
  | y :: ys, j, x, h, hx => by
    simp only [clo.cloL, Bool.and_eq_true] at h
    cases j with
    | zero => simp at hx; subst hx; exact h.1
    | succ j => simp at hx; exact cloL_at h.2 hx
theorem clo_any {φ φ' : Phi} {x : XV} {v : Value} (h : VX φ x v) : clo x = true → VX φ' x v := by
  induction h with
  | int k n => exact fun _ => .int k n
  | bool b => exact fun _ => .bool b
  | str s => exact fun _ => .str s
  | nilp => exact fun _ => .nilp
  | ptr h => intro hc; cases hc
  | nils => exact fun _ => .nils
  | sl h hc' => intro hc; cases hc
  | so h hc' => intro hc; cases hc
  | fn hn _ ih => intro hc; cases hc
  | nilf => exact fun _ => .nilf
  | ifc _ ih => exact fun hc => .ifc (ih (by simpa only [clo] using hc))
  | nili => exact fun _ => .nili
  | agg hs hn _ ih => exact fun hc => .agg hs hn fun j x c hx hc' => ih j x c hx hc' (cloL_at (by simpa only [clo] using hc) hx)
  | tup hn _ ih => exact fun hc => .tup hn fun j x c hx hc' => ih j x c hx hc' (cloL_at (by simpa only [clo] using hc) hx)

section
variable {P : Program} {φ : Phi} {w0 w w' : World} {M : Mem} {Y : TYS} {F : FNS} {run : Nat → Code → Tr XV → Mem → Option (Exit × Tr XV × Mem)}

/-- what was there stays so, if nothing that was there is turned -/
theorem MR.frame (R : MR P φ w0 M w) (h : Fr w [] w') : MR P φ w0 M w' where
  live := fun g b hg => by
    obtain ⟨p, cur, h1, h2, h3, h4⟩ := R.live g b hg
    have hlt := (Array.getElem?_eq_some_iff.1 h3).1
    exact ⟨p, cur, h1, h2, (h.blk p.1 hlt (by simp)).trans h3, h4⟩
  alias := R.alias
  dom := R.dom
  lim := R.lim
  mlim := R.mlim
  fr := ⟨h.os.trans R.fr.os, h.tape.trans R.fr.tape, h.output.trans R.fr.output, Nat.le_trans R.fr.size h.size, fun g hg hn => (h.blk g (Nat.lt_of_lt_of_le hg R.fr.size) (by simp)).trans (R.fr.blk g hg hn)⟩

def memoOK (Y : TYS) (F : FNS) (run : Nat → Code → Tr XV → Mem → Option (Exit × Tr XV × Mem)) (f : Nat) : List (List XV × XV) → Bool
  | [] => true
  | (as', r) :: rest => (clo.cloL as' && clo r && (match xCall Y F run f as' ⟨0, .nil⟩ with
    | some (r', _) => beqX r' r
    | none => false)) && memoOK Y F run f rest
theorem memoGet_ok {f : Nat} : ∀ (tab : List (List XV × XV)) {args : List XV} {r : XV}, memoOK Y F run f tab = true → memoGet tab args = some r → clo.cloL args = true ∧ clo r = true ∧ ∃ M', xCall Y F run f args ⟨0, .nil⟩ = some (r, M')
  | [], args, r, h, hg => by cases hg
  | (as', r0) :: rest, args, r, h, hg => by
    unfold memoOK at h
    simp only [Bool.and_eq_true] at h
    unfold memoGet at hg
    split at hg
    · rename_i hb
      cases hg
      have := beqL_eq _ _ hb
      subst this
      refine ⟨h.1.1.1, h.1.1.2, ?_⟩
      have h3 := h.1.2
      split at h3
      · rename_i r' M' hr
        have := beqX_eq _ _ h3
        subst this
        exact ⟨M', hr⟩
      · cases h3
    · exact memoGet_ok rest h.2 hg

theorem LX.any {xs : List XV} {vs : Array Value} {φ' : Phi} (h : LX φ xs vs) (hc : clo.cloL xs = true) : LX φ' xs vs := ⟨h.1, fun j x c hx hc' => clo_any (h.2 j x c hx hc') (cloL_at hc hx)⟩

theorem ext_memo (hY : YOK2 P Y) (hF : FOK P F) (hR : ∀ w0, RunOK P w0 run) {f : Nat} (hf : (match F f with | some (.go ..) => true | _ => false) = true) {tab : List (List XV × XV)} (h : memoOK Y F run f tab = true) : ExtOK P f (.memo tab) := by
  intro φ w0 w M M' args vs r hx R hargs
  have hx' : (match memoGet tab args with
    | some r => some (r, M)
    | none => none) = some (r, M') := hx
  split at hx'
  · rename_i r' hg
    cases hx'
    obtain ⟨h1, h2, M1, h3⟩ := memoGet_ok _ h hg
    split at hf
    · rename_i hfn
      obtain ⟨he, hc⟩ := xCall_go hY hF (hR w) hfn h3 MR.start (hargs.any h1)
      exact .inl ⟨he, hc.mono fun e w' ⟨v, hv, φ', _, hx, R'⟩ => ⟨v, hv, φ, Phi.le_refl _, clo_any hx h2, R.frame R'.fr⟩⟩
    · cases hf
  · cases hx'

def isR (b : Bool) (r : Option (XV × Mem)) : Bool := match r with
  | some (.bool c, _) => c == b
  | _ => false
def isGo (r : Option FN) : Bool := match r with
  | some (.go ..) => true
  | _ => false
/-- 'closed_run', of the form for the kernel -/
theorem closed_runk {x : Nat → Option XK} (hm : P.follows .mixedOrders = true) (hn : (P.funcs.toList.all fun fn => !(fn.name == "runtime.NumGoroutine")) = true) (hx : ∀ f k, x f = some k → ExtOK P f k) {f : FuncId} {fuel : Nat} {b : Bool}
    (hf : isGo (Fof P x f) = true) (h : isR b (xCall (Yof P) (Fof P x) (kexec (Yof P) (Fof P x) fuel) f [] ⟨0, .nil⟩) = true) (w : World) :
    Enters P f ∧ Calls P f #[] w fun e w' => e = .returned (.bool b) ∧ Fr w [] w' := by
  rw [kexec_eq] at h
  exact closed_run hm hn hx hf h w
end
end Go.Proofs.YtcmaledchnhccaaGreatDoor
