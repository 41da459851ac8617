/- From arbitrary arguments, as the given statement reads them, to data; from the contract over data to the given statement's walk. -/
import Derived.Test.YtlhjcleejolbiaaObM
import Derived.Deep.Slices
import Derived.ReadAgain
import Derived.OpenShut
import Derived.ProofKit
set_option linter.unusedVariables false
set_option linter.unusedSimpArgs false
set_option linter.unusedSectionVars false
namespace Go.Ob
open Go.RowKit Go.ChangeShapes Go.WideShapes Go.Deep

def laidF (P : Program) : Nat → List Field → Option Nat
  | off, [] => some off
  | off, f :: fs => if f.offset = off then laidF P (off + P.cellsOf f.type) fs else none

/-- A set of types of numbers, bools and strings, structs and slices of such. -/
def plainT (P : Program) (ts : List Nat) (t : Nat) : Bool :=
  match P.underlying t with
    | some .bool | some (.int _) | some .string => true
    | some (.slice e) => ts.contains e && decide (0 < P.cellsOf e)
    | some (.struct fs) => fs.toList.all (fun f => ts.contains f.type) && laidF P 0 fs.toList == some (P.cellsOf t)
    | _ => false
def plainS (P : Program) (ts : List Nat) : Bool := ts.all (plainT P ts)

/-- The cells that a value of the type has, as data. -/
def Typed (P : Program) : Nat → Nat → List D → Prop
  | 0, _, _ => False
  | n + 1, t, ds => match P.underlying t with
    | some .bool => ∃ b, ds = [.v (.bool b)]
    | some (.int k) => ∃ x, ds = [.v (.int k x)] ∧ (Lit.int k x).wf = true
    | some .string => ∃ s : ByteArray, ds = [.v (.string s)] ∧ s.size ≤ maxLen
    | some (.slice e) => ∃ xs, ds = [.sl (P.cellsOf e) xs] ∧ xs.length ≤ maxLen ∧ ∀ x ∈ xs, Typed P n e x ∧ x.length = P.cellsOf e
    | some (.struct fs) => ∃ parts : List (List D), ds = parts.flatten ∧ parts.length = fs.size ∧ ∀ (i : Nat) (f : Field) (p : List D), fs[i]? = some f → parts[i]? = some p → Typed P n f.type p
    | _ => False

def RepC (w : World) (ds : List D) (cs : List Value) : Prop :=
  ds.length = cs.length ∧ ∀ (j : Nat) (d : D) (u : Value), ds[j]? = some d → cs[j]? = some u → u.oneCell' = true ∧ Rep w no d u

theorem RepC.one {w : World} {d : D} {u : Value} (h1 : u.oneCell' = true) (h : Rep w no d u) : RepC w [d] [u] :=
  ⟨rfl, fun j d' u' hd hu => by
    match j with
    | 0 => simp only [List.getElem?_cons_zero, Option.some.injEq] at hd hu; subst hd; subst hu; exact ⟨h1, h⟩
    | _ + 1 => simp at hd⟩

theorem RepC.append {w : World} {ds ds' : List D} {cs cs' : List Value} (h : RepC w ds cs) (k : RepC w ds' cs') : RepC w (ds ++ ds') (cs ++ cs') :=
  ⟨by simp [h.1, k.1], fun j d u hd hu => by
    by_cases hj : j < ds.length
    · rw [List.getElem?_append_left hj] at hd
      rw [List.getElem?_append_left (by have := h.1; omega)] at hu
      exact h.2 j d u hd hu
    · rw [List.getElem?_append_right (by omega)] at hd
      rw [List.getElem?_append_right (by have := h.1; omega)] at hu
      have := h.1
      rw [this] at hd
      exact k.2 _ d u hd hu⟩

theorem parts_of {P : Program} {w : World} {T : Field → List D → Prop} {cs : List Value} : ∀ (fs : List Field) (off : Nat) (_ : laidF P off fs = some cs.length)
    (_ : ∀ f ∈ fs, ∃ ds, T f ds ∧ RepC w ds ((cs.drop f.offset).take (P.cellsOf f.type))),
    ∃ parts : List (List D), parts.length = fs.length ∧ (∀ (i : Nat) (f : Field) (p : List D), fs[i]? = some f → parts[i]? = some p → T f p) ∧ RepC w parts.flatten (cs.drop off)
  | [], off, hl, _ => ⟨[], rfl, fun i f p h => by simp at h, by
      simp only [laidF, Option.some.injEq] at hl
      simp [hl, RepC]⟩
  | f :: fs, off, hl, h => by
      simp only [laidF] at hl
      split at hl
      · rename_i ho
        obtain ⟨ds, hT, hr⟩ := h f (by simp)
        obtain ⟨parts, hp, hq, hrr⟩ := parts_of fs _ hl (fun g hg => h g (by simp [hg]))
        refine ⟨ds :: parts, by simp [hp], fun i g p hg hpp => ?_, ?_⟩
        · match i with
          | 0 => simp at hg hpp; subst hg; subst hpp; exact hT
          | i + 1 => simp at hg hpp; exact hq i g p hg hpp
        · rw [List.flatten_cons]
          have := hr.append hrr
          rw [ho] at this
          have hc : (cs.drop off).take (P.cellsOf f.type) ++ cs.drop (off + P.cellsOf f.type) = cs.drop off := by
            rw [← List.drop_drop, List.take_append_drop]
          rwa [hc] at this
      · cases hl

theorem trodRep {H : Type} {enc : TypeId × Value → H} {P : Program} {w : World} {held : Bool} {ts : List Nat} (hps : plainS P ts = true) : ∀ (fuel : Nat) (t : Nat) (cs : List Value) (x : DataW H × List MemPlace),
    ts.contains t = true → DataW.trod enc P w 0 (fun _ => true) held fuel t cs = some x → ∃ ds, Typed P fuel t ds ∧ RepC w ds cs := by
  intro n
  induction n with
  | zero => intro t cs x _ h; simp [DataW.trod] at h
  | succ n ih =>
    intro t cs x hp h
    replace hp := List.all_eq_true.1 hps t (List.contains_iff_mem.1 hp)
    unfold plainT at hp
    unfold Typed
    split at hp
    · rename_i hu
      obtain ⟨b, rfl, _⟩ := DataW.trod_bool hu h
      exact ⟨_, ⟨b, rfl⟩, .one rfl (.v _)⟩
    · rename_i k hu
      obtain ⟨m, rfl, _, hw⟩ := DataW.trod_int hu h
      exact ⟨_, ⟨m, rfl, hw⟩, .one rfl (.v _)⟩
    · rename_i hu
      obtain ⟨s, rfl, _, hs⟩ := DataW.trod_string hu h
      exact ⟨_, ⟨s, rfl, hs⟩, .one rfl (.v _)⟩
    · rename_i e hu
      simp only [Bool.and_eq_true, decide_eq_true_eq] at hp
      rcases DataW.trod_slice hu h with ⟨rfl, _⟩ | ⟨a, len, cap, elems, rest, k, hk, rfl, _, _, hlc, hcap, hlen, hel, _, _⟩
      · exact ⟨_, ⟨[], rfl, by simp, fun _ h => by cases h⟩, .one rfl (.nil _)⟩
      · obtain rfl : k = n := by omega
        have hx : ∀ i, i < len → ∃ cs', w.cells? 0 (a.add (i * P.cellsOf e)) (P.cellsOf e) = some cs' ∧ ∃ y, DataW.trod enc P w 0 (fun _ => true) held k e cs' = some y := fun i hi => by
          have h1 := hel i hi
          rw [List.getElem?_eq_getElem (by omega)] at h1
          obtain ⟨cs', h2, h3⟩ := Option.bind_eq_some_iff.1 h1
          exact ⟨cs', h2, _, h3⟩
        obtain ⟨X, hX⟩ := choose_lt (α := List D × List Value) (n := len) (p := fun i X => w.cells? 0 (a.add (i * P.cellsOf e)) (P.cellsOf e) = some X.2 ∧ Typed P k e X.1 ∧ RepC w X.1 X.2) (fun i hi => by
          obtain ⟨cs', h1, y, h2⟩ := hx i hi
          obtain ⟨ds, h3, h4⟩ := ih _ _ _ hp.1 h2
          exact ⟨(ds, cs'), h1, h3, h4⟩)
        have hcl : ∀ i, i < len → (X i).2.length = P.cellsOf e := fun i hi => (World.cells?_some (hX i hi).1).2.1
        refine ⟨[.sl (P.cellsOf e) ((List.range len).map fun i => (X i).1)], ⟨_, rfl, by simp; omega, fun x hx => ?_⟩, .one rfl ?_⟩
        · obtain ⟨i, hi, rfl⟩ := List.mem_map.1 hx
          have hi := List.mem_range.1 hi
          exact ⟨(hX i hi).2.1, by rw [(hX i hi).2.2.1, hcl i hi]⟩
        · have hget : ∀ {i : Nat} {x : List D}, ((List.range len).map fun i => (X i).1)[i]? = some x → i < len ∧ x = (X i).1 := by
            intro i x h
            obtain ⟨hi, he⟩ := List.getElem?_eq_some_iff.1 h
            simp at hi he
            exact ⟨hi, he.symm⟩
          have key : ∀ (i j : Nat) (d : D), i < len → (X i).1[j]? = some d → w.cell? (a.add (i * P.cellsOf e + j)) = some ((X i).2.getD j (.bool false)) ∧ ((X i).2.getD j (.bool false)).oneCell' = true ∧ Rep w no d ((X i).2.getD j (.bool false)) := by
            intro i j d hi hd
            have hj : j < (X i).1.length := (List.getElem?_eq_some_iff.1 hd).1
            have hl := (hX i hi).2.2.1
            have hj2 : j < (X i).2.length := by omega
            have hu : (X i).2[j]? = some ((X i).2.getD j (.bool false)) := by simp [List.getD, hj2]
            have := (World.cells?_some (hX i hi).1).2.2 j (by rw [← hcl i hi]; exact hj2)
            rw [Deep.add_add, hu] at this
            exact ⟨this, (hX i hi).2.2.2 j d _ hd hu⟩
          have := Rep.sl (w := w) (own := no) (P.cellsOf e) ((List.range len).map fun i => (X i).1) a cap (fun i j => (X i).2.getD j (.bool false)) (by simpa using hlc) (fun x hx => by
              obtain ⟨i, hi, rfl⟩ := List.mem_map.1 hx
              have hi := List.mem_range.1 hi
              rw [(hX i hi).2.2.1, hcl i hi]) (fun hne => ?_) (fun i j x d hx hd => by
              obtain ⟨hi, rfl⟩ := hget hx
              exact ⟨(key i j d hi hd).1, (key i j d hi hd).2.1⟩) (fun i j x d hx hd => by
              obtain ⟨hi, rfl⟩ := hget hx
              exact (key i j d hi hd).2.2)
          · simpa using this
          · refine ⟨fun h => h, ?_⟩
            have h0 : 0 < len := by
              rcases Nat.eq_zero_or_pos len with h | h
              · exact absurd (by simp [h]) hne
              · exact h
            have hc := (World.cells?_some (hX 0 h0).1).2
            have := hc.2 0 hp.2
            rw [List.getElem?_eq_getElem (by omega)] at this
            have := block_lt_of_cell this
            rwa [Addr.block_add, Addr.block_add] at this
    · rename_i fs hu
      obtain ⟨xs, m, hm, rfl, hl, hxs, hf⟩ := DataW.trod_struct hu h
      obtain rfl : m = n := by omega
      simp only [Bool.and_eq_true, List.all_eq_true, beq_iff_eq] at hp
      obtain ⟨parts, hpl, hpt, hr⟩ := parts_of (P := P) (w := w) (T := fun f ds => Typed P m f.type ds) (cs := cs) fs.toList 0 (by rw [hp.2, hl]) (fun f hfm => by
        obtain ⟨i, hi, hfi⟩ := List.mem_iff_getElem.1 hfm
        have hfi' : fs[i]? = some f := by
          rw [← Array.getElem?_toList, List.getElem?_eq_getElem hi, hfi]
        have h1 := hf i f hfi'
        have hix : i < xs.length := by rw [hxs]; simpa using hi
        rw [List.getElem?_eq_getElem hix] at h1
        exact ih _ _ _ (hp.1 f hfm) h1)
      exact ⟨_, ⟨parts, rfl, by simpa using hpl, fun i f p h1 h2 => hpt i f p (by rw [Array.getElem?_toList]; exact h1) h2⟩, by simpa using hr⟩
    · cases hp

/-- An argument, as data: a struct's cells are one aggregate. -/
def TypedVF (P : Program) (t : Nat) (d : D) : Prop :=
  match P.underlying t with
  | some (.struct _) => ∃ n ds, d = .agg ds ∧ Typed P n t ds
  | _ => ∃ n, Typed P n t [d]

structure TypedV (P : Program) (t : Nat) (d : D) : Prop where
  out : TypedVF P t d

theorem argRep {H : Type} {enc : TypeId × Value → H} {P : Program} {w : World} {held : Bool} {ts : List Nat} {t : Nat} {v : Value} {d : DataW H} {ps : List MemPlace} {r : Reach} {base : Nat}
    (hps : plainS P ts = true) (hp : ts.contains t = true) (hv : Value.okWide P w r base t v) (h : DataW.Trod enc P w 0 (fun _ => true) held t v d ps) : ∃ d', TypedV P t d' ∧ Rep w no d' v := by
  obtain ⟨fuel, h⟩ := h
  obtain ⟨ds, ht, hr⟩ := trodRep hps fuel t _ _ hp h
  suffices hh : ∃ d', TypedVF P t d' ∧ Rep w no d' v by
    obtain ⟨d', h1, h2⟩ := hh
    exact ⟨d', ⟨h1⟩, h2⟩
  unfold TypedVF
  unfold Value.okWide at hv
  split at hv
  · rename_i hu
    obtain ⟨cs, rfl, hcs, _⟩ := hv
    simp only [hu]
    simp only [Value.cells] at hr
    refine ⟨_, ⟨_, ds, rfl, ht⟩, .agg ds cs (by simpa using hr.1.symm) (fun j u hu => ?_) (fun j d u hd hu => (hr.2 j d u hd (by simpa using hu)).2)⟩
    have hj : j < ds.length := by
      have := hr.1
      have := (Array.getElem?_eq_some_iff.1 hu).1
      simp at *
      omega
    exact (hr.2 j ds[j] u (List.getElem?_eq_getElem hj) (by simpa using hu)).1
  · rename_i hu
    replace hp := List.all_eq_true.1 hps t (List.contains_iff_mem.1 hp)
    simp [plainT, hu] at hp
  · rename_i hns hna
    have hagg : v.cells.toList = [v] := by
      cases v with
      | agg cs => exfalso; unfold Cell.okWide Cell.ok at hv; revert hv; cases P.underlying t <;> simp <;> rename_i x <;> cases x <;> simp
      | _ => rfl
    rw [hagg] at hr
    obtain ⟨d, rfl⟩ := List.length_eq_one_iff.1 hr.1
    refine ⟨d, ?_, (hr.2 0 d v rfl rfl).2⟩
    split
    · rename_i hu; exact absurd hu (hns _)
    · exact ⟨_, ht⟩

/-! ### unpacking -/
theorem ty_int {P : Program} {n : Nat} {t : Nat} {ds : List D} (hu : P.underlying t = some (.int .i64)) (h : Typed P n t ds) : ∃ x, ds = [.v (.int .i64 x)] ∧ I64 x := by
  cases n with
  | zero => exact h.elim
  | succ n =>
  simp only [Typed, hu] at h
  obtain ⟨x, rfl, hw⟩ := h
  exact ⟨x, rfl, by simp [Lit.wf, IntKind.min, IntKind.max, IntKind.signed, IntKind.bits] at hw; unfold I64; omega⟩
theorem ty_bool {P : Program} {n : Nat} {t : Nat} {ds : List D} (hu : P.underlying t = some .bool) (h : Typed P n t ds) : ∃ b, ds = [.v (.bool b)] := by
  cases n with
  | zero => exact h.elim
  | succ n => simpa only [Typed, hu] using h
theorem ty_str {P : Program} {n : Nat} {t : Nat} {ds : List D} (hu : P.underlying t = some .string) (h : Typed P n t ds) : ∃ s : ByteArray, ds = [.v (.string s)] ∧ s.size ≤ maxLen := by
  cases n with
  | zero => exact h.elim
  | succ n => simpa only [Typed, hu] using h
theorem enc_list {α : Type} {ok : α → Prop} {enc : α → List D} : ∀ (xs : List (List D)), (∀ x ∈ xs, ∃ y, ok y ∧ x = enc y) → ∃ l : List α, (∀ y ∈ l, ok y) ∧ xs = l.map enc
  | [], _ => ⟨[], fun _ h => (by cases h), rfl⟩
  | x :: xs, h => by
    obtain ⟨y, hy, rfl⟩ := h x (by simp)
    obtain ⟨l, hl, rfl⟩ := enc_list xs (fun x hx => h x (by simp [hx]))
    exact ⟨y :: l, (by
      intro z hz
      rcases List.mem_cons.1 hz with h | h
      · subst h; exact hy
      · exact hl z h), rfl⟩
theorem ty_sl {P : Program} {n : Nat} {t e es : Nat} {ds : List D} {α : Type} {ok : α → Prop} {enc : α → List D} (hu : P.underlying t = some (.slice e)) (hes : P.cellsOf e = es) (dec : ∀ m ds, Typed P m e ds → ∃ y, ok y ∧ ds = enc y)
    (h : Typed P n t ds) : ∃ l : List α, (∀ y ∈ l, ok y) ∧ l.length ≤ maxLen ∧ ds = [.sl es (l.map enc)] := by
  cases n with
  | zero => exact h.elim
  | succ n =>
  simp only [Typed, hu] at h
  obtain ⟨xs, rfl, hl, hx⟩ := h
  subst hes
  obtain ⟨l, h1, rfl⟩ := enc_list xs (fun x hx' => dec _ x (hx x hx').1)
  exact ⟨l, h1, by simpa using hl, rfl⟩
def TypedAll (P : Program) (n : Nat) : List Nat → List (List D) → Prop
  | [], [] => True
  | t :: ts, p :: ps => Typed P n t p ∧ TypedAll P n ts ps
  | _, _ => False
theorem typedAll_of {P : Program} {n : Nat} : ∀ (fs : List Field) (ps : List (List D)), ps.length = fs.length → (∀ (i : Nat) (f : Field) (p : List D), fs[i]? = some f → ps[i]? = some p → Typed P n f.type p) →
    TypedAll P n (fs.map (·.type)) ps
  | [], [], _, _ => trivial
  | f :: fs, p :: ps, hl, h => ⟨h 0 f p rfl rfl, typedAll_of fs ps (by simpa using hl) (fun i f p h1 h2 => h (i + 1) f p (by simpa using h1) (by simpa using h2))⟩
  | [], _ :: _, hl, _ => by simp at hl
  | _ :: _, [], hl, _ => by simp at hl
theorem ty_st {P : Program} {n : Nat} {t : Nat} {ds : List D} {fs : Array Field} {ts : List Nat} (hu : P.underlying t = some (.struct fs)) (hts : fs.toList.map (·.type) = ts) (h : Typed P n t ds) :
    ∃ (m : Nat) (ps : List (List D)), ds = ps.flatten ∧ TypedAll P m ts ps := by
  cases n with
  | zero => exact h.elim
  | succ n =>
  simp only [Typed, hu] at h
  obtain ⟨ps, rfl, hl, hi⟩ := h
  exact ⟨n, ps, rfl, hts ▸ typedAll_of fs.toList ps (by simpa using hl) (fun i f p h1 h2 => hi i f p (by rwa [Array.getElem?_toList] at h1) h2)⟩
theorem all_cons {P : Program} {n : Nat} {t : Nat} {ts : List Nat} {ps : List (List D)} (h : TypedAll P n (t :: ts) ps) : ∃ p qs, ps = p :: qs ∧ Typed P n t p ∧ TypedAll P n ts qs := by
  cases ps with
  | nil => exact h.elim
  | cons p qs => exact ⟨p, qs, rfl, h⟩
theorem all_nil {P : Program} {n : Nat} {ps : List (List D)} (h : TypedAll P n [] ps) : ps = [] := by
  cases ps with
  | nil => rfl
  | cons p qs => exact h.elim
def notSt : TypeDesc → Bool
  | .struct _ => false
  | _ => true
theorem tv_one {P : Program} {t : Nat} {d : D} {td : TypeDesc} (hu : P.underlying t = some td) (hn : notSt td = true) (h : TypedV P t d) : ∃ n, Typed P n t [d] := by
  replace h := h.out
  unfold TypedVF at h
  rw [hu] at h
  cases td <;> first | exact h | cases hn
theorem tv_st {P : Program} {t : Nat} {d : D} {fs : Array Field} (hu : P.underlying t = some (.struct fs)) (h : TypedV P t d) : ∃ n ds, d = .agg ds ∧ Typed P n t ds := by
  have h := h.out
  simpa only [TypedVF, hu] using h
theorem tv_int {P : Program} {t : Nat} {d : D} (hu : P.underlying t = some (.int .i64)) (h : TypedV P t d) : ∃ x, d = .v (.int .i64 x) ∧ I64 x := by
  obtain ⟨x, he, hx⟩ := ty_int hu (tv_one hu rfl h).choose_spec
  exact ⟨x, by simpa using he, hx⟩
theorem tv_bool {P : Program} {t : Nat} {d : D} (hu : P.underlying t = some .bool) (h : TypedV P t d) : ∃ b, d = .v (.bool b) := by
  obtain ⟨x, he⟩ := ty_bool hu (tv_one hu rfl h).choose_spec
  exact ⟨x, by simpa using he⟩
theorem tv_str {P : Program} {t : Nat} {d : D} (hu : P.underlying t = some .string) (h : TypedV P t d) : ∃ s : ByteArray, d = .v (.string s) ∧ s.size ≤ maxLen := by
  obtain ⟨x, he, hx⟩ := ty_str hu (tv_one hu rfl h).choose_spec
  exact ⟨x, by simpa using he, hx⟩
theorem tv_sl {P : Program} {t e es : Nat} {d : D} {α : Type} {ok : α → Prop} {enc : α → List D} (hu : P.underlying t = some (.slice e)) (hes : P.cellsOf e = es) (dec : ∀ m ds, Typed P m e ds → ∃ y, ok y ∧ ds = enc y)
    (h : TypedV P t d) : ∃ l : List α, (∀ y ∈ l, ok y) ∧ l.length ≤ maxLen ∧ d = .sl es (l.map enc) := by
  obtain ⟨x, h1, h2, he⟩ := ty_sl hu hes dec (tv_one hu rfl h).choose_spec
  exact ⟨x, h1, h2, by simpa using he⟩

/-! ### the call -/
/-- What the arguments mean. -/
def Reps (w : World) : List D → List Value → Prop
  | [], [] => True
  | d :: ds, v :: vs => Rep w no d v ∧ Reps w ds vs
  | _, _ => False
theorem Reps.get {w : World} : ∀ {ds : List D} {vs : List Value}, Reps w ds vs → vs.length = ds.length ∧ ∀ (j : Nat) (d : D) (u : Value), ds[j]? = some d → vs[j]? = some u → Rep w no d u
  | [], [], _ => ⟨rfl, fun j d u h => by simp at h⟩
  | d :: ds, v :: vs, h => ⟨by simp [h.2.get.1], fun j d' u hd hu => by
      match j with
      | 0 => simp at hd hu; subst hd; subst hu; exact h.1
      | j + 1 => exact h.2.get.2 j d' u (by simpa using hd) (by simpa using hu)⟩
  | [], _ :: _, h => h.elim
  | _ :: _, [], h => h.elim
theorem Fun.walk {P : Program} {f : FuncId} {ds : List D} {vs : List Value} {w : World} (h : Fun P f ds (.v (.bool true))) (hr : Reps w ds vs) (hG : GlobOK P w no) :
    Calls P f vs.toArray w fun e w' => e = .returned (.bool true) ∧ Below w.heap.size w w' := by
  refine (h w no vs hr.get.1 (fun j d u hd hu => (hr.get.2 j d u hd hu).mono (Nat.le_refl _) (fun _ _ _ => rfl) (fun b _ hb => ?_)) ⟨fun _ hb => (by cases hb), .nil⟩ ⟨fun _ hf => hf.elim, hG.less fun g hg => absurd hg (own_nil g)⟩).mono ?_
  · rcases hb with h | h
    · exact h
    · exact (own_nil _ h).elim
  · rintro e w' ⟨v, r, H', rfl, ⟨rfl, rfl⟩, hr', _, hk, _⟩
    obtain rfl := hr'.of_v
    exact ⟨rfl, (hk.mono (fun b _ hb => (own_nil b hb).elim)).below⟩

/-! ### the given statement's end -/
section
variable {H : Type} {enc : TypeId × Value → H} {P : Program}
theorem trodAll_below {T : TypeId → Prop} {W W' : World} {sp : Nat → Bool} (K : Kids P T) (hz : ∀ t e, T t → P.underlying t = some (.slice e) → 0 < P.cellsOf e) (hb : Below W.heap.size W W') :
    ∀ {ts : List Nat} {vs : List Value} {ds : List (DataW H)} {ps : List MemPlace}, (∀ t ∈ ts, T t) → DataW.TrodAll enc P W 0 (fun _ => true) true ts vs ds ps → (∀ p ∈ ps, sp p.block = true) → DataW.TrodAll enc P W' 0 sp true ts vs ds ps
  | [], [], [], _, _, h, _ => h
  | _ :: _, _ :: _, _ :: _, _, hT, ⟨p, q, ⟨n, h1⟩, h2, e⟩, hs => by
    have h3 := DataW.trod_respare K hz n _ _ _ (hT _ (List.mem_cons.2 (Or.inl rfl))) h1 (spare' := sp) (fun x hx => hs x (by rw [e]; exact List.mem_append_left _ hx))
    exact ⟨p, q, ⟨n, DataW.trod_carry n _ _ _ h3 (fun x hx => hb.same (DataW.trod_lt n _ _ _ h1 x hx))⟩,
      trodAll_below K hz hb (fun t ht => hT t (List.mem_cons.2 (Or.inr ht))) h2 (fun x hx => hs x (by rw [e]; exact List.mem_append_right _ hx)), e⟩
theorem post_plain {f : Func} {s : ChangeSpec} {apart fresh handsOn again : Bool} {W W' : World} {args : Array Value} {v : Value} {ds : List (DataW H)} {before : List MemPlace}
    (hvars : s.vars = []) (hW : DataW.Whole enc P f.params.toList s.vars apart W args.toList ds [] before) (hb : Below W.heap.size W W')
    (hres : ∀ (b : Nat) (sp : Nat → Bool) (hd : Bool), DataW.TrodAll enc P W' b sp hd f.resultTypes.toList (v.resultList f.resultTypes.size) (s.fn H (ds ++ [])).results [])
    (hargs : ∀ sp : Nat → Bool, (∀ p ∈ before, sp p.block = true) → DataW.TrodAll enc P W' 0 sp true f.params.toList args.toList (s.fn H (ds ++ [])).args before)
    (hv : (s.fn H (ds ++ [])).vars = [])
    (hok : ∀ (j : Nat) (t : Nat) (r : Value), f.resultTypes[j]? = some t → (v.resultList f.resultTypes.size)[j]? = some r → Value.okWide P W' .any 0 t r) :
    s.post enc P f apart fresh handsOn again W args v W' := by
  have hlt : ∀ p ∈ before, p.block < W.heap.size := fun p hp => hW.lt p hp
  have hvs : ∀ sp : Nat → Bool, DataW.TrodVars enc P W' sp s.vars (s.fn H (ds ++ [])).vars [] := fun sp => by rw [hvars, hv]; rfl
  refine ⟨ds, [], before, [], before, [], hW, hres _ _ _, hargs _ (fun p hp => by simpa using hlt p hp), hvs _, World.keptBut_mono (fun p hp => ⟨hp, Or.inr (Or.inl hp)⟩) (hb.frame (· ∈ before)), fun _ => ?_⟩
  obtain ⟨_, _, _, _, _, hz, hn⟩ := hW
  refine ⟨hok, _, _, ([] ++ before) ++ [], ⟨[] ++ before, [], trodAll_append (hargs _ (fun _ _ => rfl)) (hres _ _ _), hvs _, rfl, fun b off hp => ?_, fun ha => by simpa using hn ha⟩, fun p hp _ => by simpa using hp⟩
  have hin : MemPlace.cell b off ∈ before := by simpa using hp
  rw [hb.frozen (hlt _ hin)]
  exact hz b off hin
end

end Go.Ob
