import Derived.Test.YtlhjcleejolbiaaObN
import Derived.SizedLaws
import Derived.Test.YtlhjcleejolbiaaD
import Derived.Test.YtlhjcleejolbiaaC6
set_option linter.unusedVariables false
set_option linter.unusedSimpArgs false
namespace Go.Ob
open Go.Proofs
open Go.RowKit Go.ChangeShapes Go.WideShapes Go.Deep
/-! ### the cells of an argument, with the bytes that its slices may have -/
def TypedS (P : Program) : Nat → Nat → List D → Prop
  | 0, _, _ => False
  | n + 1, t, ds => match P.underlying t with
    | some .bool => ∃ b, ds = [.v (.bool b)]
    | some (.int k) => ∃ x, ds = [.v (.int k x)] ∧ (Lit.int k x).wf = true
    | some .string => ∃ s : ByteArray, ds = [.v (.string s)] ∧ s.size ≤ maxLen
    | some (.slice e) => ∃ xs, ds = [.sl (P.cellsOf e) xs] ∧ (xs.length ≤ maxLen ∧ xs.length * P.bytesOf e ≤ reachBytes) ∧ ∀ x ∈ xs, TypedS P n e x ∧ x.length = P.cellsOf e
    | some (.struct fs) => ∃ parts : List (List D), ds = parts.flatten ∧ parts.length = fs.size ∧ ∀ (i : Nat) (f : Field) (p : List D), fs[i]? = some f → parts[i]? = some p → TypedS P n f.type p
    | _ => False
theorem tsB {P : Program} {n t : Nat} {b : Bool} (hu : P.underlying t = some .bool) : TypedS P (n + 1) t [.v (.bool b)] := by
  simp only [TypedS, hu]; exact ⟨b, rfl⟩
theorem tsI {P : Program} {n t : Nat} {k : IntKind} {x : Int} (hu : P.underlying t = some (.int k)) (hx : (Lit.int k x).wf = true) : TypedS P (n + 1) t [.v (.int k x)] := by
  simp only [TypedS, hu]; exact ⟨x, rfl, hx⟩
theorem tsT {P : Program} {n t : Nat} {s : ByteArray} (hu : P.underlying t = some .string) (hx : s.size ≤ maxLen) : TypedS P (n + 1) t [.v (.string s)] := by
  simp only [TypedS, hu]; exact ⟨s, rfl, hx⟩
theorem tsS {P : Program} {n t e : Nat} {xs : List (List D)} (hu : P.underlying t = some (.slice e)) (h1 : xs.length ≤ maxLen) (h2 : xs.length * P.bytesOf e ≤ reachBytes) (h : ∀ x ∈ xs, TypedS P n e x ∧ x.length = P.cellsOf e) : TypedS P (n + 1) t [.sl (P.cellsOf e) xs] := by
  simp only [TypedS, hu]; exact ⟨xs, rfl, ⟨h1, h2⟩, h⟩
theorem tsF {P : Program} {n t : Nat} {fs : Array Field} {parts : List (List D)} (hu : P.underlying t = some (.struct fs)) (h1 : parts.length = fs.size) (h : ∀ (i : Nat) (f : Field) (p : List D), fs[i]? = some f → parts[i]? = some p → TypedS P n f.type p) : TypedS P (n + 1) t parts.flatten := by
  simp only [TypedS, hu]; exact ⟨parts, rfl, h1, h⟩
theorem weightsAll_mem {H : Type} {P : Program} {e : Nat} : ∀ {ds : List (DataW H)} {d : DataW H} (_ : d ∈ ds) (m : Nat) (_ : m ∈ d.weights P e), m ∈ DataW.weightsAll P e ds
  | d0 :: ds, d, h, m, hm => by
    simp only [DataW.weightsAll, List.mem_append]
    rcases List.mem_cons.1 h with rfl | h
    · exact Or.inl hm
    · exact Or.inr (weightsAll_mem h m hm)
  | [], _, h, _, _ => by cases h
theorem trodRepS {H : Type} {enc : TypeId × Value → H} {P : Program} {w : World} {held : Bool} {ts : List Nat} (hps : plainS P ts = true) : ∀ (fuel : Nat) (t : Nat) (cs : List Value) (x : DataW H × List MemPlace),
    ts.contains t = true → DataW.trod enc P w 0 (fun _ => true) held fuel t cs = some x → (∀ m ∈ x.1.weights P t, m ≤ reachBytes) → ∃ ds, TypedS P fuel t ds ∧ RepC w ds cs := by
  intro n
  induction n with
  | zero => intro t cs x _ h; simp [DataW.trod] at h
  | succ n ih =>
    intro t cs x hp h hwt
    replace hp := List.all_eq_true.1 hps t (List.contains_iff_mem.1 hp)
    unfold plainT at hp
    split at hp
    · rename_i hu
      obtain ⟨b, rfl, _⟩ := DataW.trod_bool hu h
      exact ⟨_, tsB hu, .one rfl (.v _)⟩
    · rename_i k hu
      obtain ⟨m, rfl, _, hw⟩ := DataW.trod_int hu h
      exact ⟨_, tsI hu hw, .one rfl (.v _)⟩
    · rename_i hu
      obtain ⟨s, rfl, _, hs⟩ := DataW.trod_string hu h
      exact ⟨_, tsT hu hs, .one rfl (.v _)⟩
    · rename_i e hu
      simp only [Bool.and_eq_true, decide_eq_true_eq] at hp
      rcases DataW.trod_slice hu h with ⟨rfl, _⟩ | ⟨a, len, cap, elems, rest, k, hk, rfl, hxe, _, hlc, hcap, hlen, hel, _, _⟩
      · exact ⟨_, tsS (xs := []) hu (by simp) (by simp) (fun _ h => by cases h), .one rfl (.nil _)⟩
      · obtain rfl : k = n := by omega
        subst hxe
        simp only [DataW.weights, hu] at hwt
        have hby : len * P.bytesOf e ≤ reachBytes := by
          have h1 := hwt _ (List.mem_cons_self ..)
          have h2 : len * P.bytesOf e ≤ ((elems.map (·.1)).length + (rest.map (·.1)).length) * P.bytesOf e := Nat.mul_le_mul_right _ (by simp; omega)
          omega
        have hx : ∀ i, i < len → ∃ cs', w.cells? 0 (a.add (i * P.cellsOf e)) (P.cellsOf e) = some cs' ∧ ∃ y, DataW.trod enc P w 0 (fun _ => true) held k e cs' = some y ∧ ∀ m ∈ y.1.weights P e, m ≤ reachBytes := fun i hi => by
          have h1 := hel i hi
          rw [List.getElem?_eq_getElem (by omega)] at h1
          obtain ⟨cs', h2, h3⟩ := Option.bind_eq_some_iff.1 h1
          refine ⟨cs', h2, _, h3, fun m hm => hwt m ?_⟩
          exact List.mem_cons_of_mem _ (List.mem_append_left _ (weightsAll_mem (List.mem_map.2 ⟨_, List.getElem_mem _, rfl⟩) m hm))
        obtain ⟨X, hX⟩ := choose_lt (α := List D × List Value) (n := len) (p := fun i X => w.cells? 0 (a.add (i * P.cellsOf e)) (P.cellsOf e) = some X.2 ∧ TypedS P k e X.1 ∧ RepC w X.1 X.2) (fun i hi => by
          obtain ⟨cs', h1, y, h2, hw2⟩ := hx i hi
          obtain ⟨ds, h3, h4⟩ := ih _ _ _ hp.1 h2 hw2
          exact ⟨(ds, cs'), h1, h3, h4⟩)
        have hcl : ∀ i, i < len → (X i).2.length = P.cellsOf e := fun i hi => (World.cells?_some (hX i hi).1).2.1
        refine ⟨[.sl (P.cellsOf e) ((List.range len).map fun i => (X i).1)], tsS hu (by simp; omega) (by simpa using hby) (fun x hx => ?_), .one rfl ?_⟩
        · obtain ⟨i, hi, rfl⟩ := List.mem_map.1 hx
          have hi := List.mem_range.1 hi
          exact ⟨(hX i hi).2.1, by rw [(hX i hi).2.2.1, hcl i hi]⟩
        · have hget : ∀ {i : Nat} {x : List D}, ((List.range len).map fun i => (X i).1)[i]? = some x → i < len ∧ x = (X i).1 := by
            intro i x h
            obtain ⟨hi, he⟩ := List.getElem?_eq_some_iff.1 h
            simp at hi he
            exact ⟨hi, he.symm⟩
          have key : ∀ (i j : Nat) (d : D), i < len → (X i).1[j]? = some d → w.cell? (a.add (i * P.cellsOf e + j)) = some ((X i).2.getD j (.bool false)) ∧ ((X i).2.getD j (.bool false)).oneCell' = true ∧ Rep w no d ((X i).2.getD j (.bool false)) := by
            intro i j d hi hd
            have hj : j < (X i).1.length := (List.getElem?_eq_some_iff.1 hd).1
            have hl := (hX i hi).2.2.1
            have hj2 : j < (X i).2.length := by omega
            have hu : (X i).2[j]? = some ((X i).2.getD j (.bool false)) := by simp [List.getD, hj2]
            have := (World.cells?_some (hX i hi).1).2.2 j (by rw [← hcl i hi]; exact hj2)
            rw [Deep.add_add, hu] at this
            exact ⟨this, (hX i hi).2.2.2 j d _ hd hu⟩
          have := Rep.sl (w := w) (own := no) (P.cellsOf e) ((List.range len).map fun i => (X i).1) a cap (fun i j => (X i).2.getD j (.bool false)) (by simpa using hlc) (fun x hx => by
              obtain ⟨i, hi, rfl⟩ := List.mem_map.1 hx
              have hi := List.mem_range.1 hi
              rw [(hX i hi).2.2.1, hcl i hi]) (fun hne => ?_) (fun i j x d hx hd => by
              obtain ⟨hi, rfl⟩ := hget hx
              exact ⟨(key i j d hi hd).1, (key i j d hi hd).2.1⟩) (fun i j x d hx hd => by
              obtain ⟨hi, rfl⟩ := hget hx
              exact (key i j d hi hd).2.2)
          · simpa using this
          · refine ⟨fun h => h, ?_⟩
            have h0 : 0 < len := by
              rcases Nat.eq_zero_or_pos len with h | h
              · exact absurd (by simp [h]) hne
              · exact h
            have hc := (World.cells?_some (hX 0 h0).1).2
            have := hc.2 0 hp.2
            rw [List.getElem?_eq_getElem (by omega)] at this
            have := block_lt_of_cell this
            rwa [Addr.block_add, Addr.block_add] at this
    · rename_i fs hu
      obtain ⟨xs, m, hm, hxe, hl, hxs, hf⟩ := DataW.trod_struct hu h
      obtain rfl : m = n := by omega
      subst hxe
      simp only [DataW.weights, hu] at hwt
      simp only [Bool.and_eq_true, List.all_eq_true, beq_iff_eq] at hp
      obtain ⟨parts, hpl, hpt, hr⟩ := parts_of (P := P) (w := w) (T := fun f ds => TypedS P m f.type ds) (cs := cs) fs.toList 0 (by rw [hp.2, hl]) (fun f hfm => by
        obtain ⟨i, hi, hfi⟩ := List.mem_iff_getElem.1 hfm
        have hfi' : fs[i]? = some f := by
          rw [← Array.getElem?_toList, List.getElem?_eq_getElem hi, hfi]
        have h1 := hf i f hfi'
        have hix : i < xs.length := by rw [hxs]; simpa using hi
        rw [List.getElem?_eq_getElem hix] at h1
        refine ih _ _ _ (hp.1 f hfm) h1 (fun k hk => hwt k ?_)
        exact DataW.weights_mem_each (ts := fs.toList.map (·.type)) (ds := xs.map (·.1)) (j := i) (t := f.type) (d := (xs[i]).1) (by rw [List.getElem?_map, Array.getElem?_toList, hfi']; rfl) (by rw [List.getElem?_map, List.getElem?_eq_getElem hix]; rfl) k hk)
      exact ⟨_, tsF hu (by simpa using hpl) (fun i f p h1 h2 => hpt i f p (by rw [Array.getElem?_toList]; exact h1) h2), by simpa using hr⟩
    · cases hp
theorem argRepS {H : Type} {enc : TypeId × Value → H} {P : Program} {w : World} {held : Bool} {ts : List Nat} {t e : Nat} {v : Value} {d : DataW H} {ps : List MemPlace} {r : Reach} {base : Nat} (hu : P.underlying t = some (.slice e))
    (hps : plainS P ts = true) (hp : ts.contains t = true) (hv : Value.okWide P w r base t v) (hwt : ∀ m ∈ d.weights P t, m ≤ reachBytes) (h : DataW.Trod enc P w 0 (fun _ => true) held t v d ps) : ∃ d', (∃ n, TypedS P n t [d']) ∧ Rep w no d' v := by
  obtain ⟨fuel, h⟩ := h
  obtain ⟨ds, ht, hr⟩ := trodRepS hps fuel t _ _ hp h hwt
  have hagg : v.cells.toList = [v] := by
    cases v with
    | agg cs => exfalso; unfold Value.okWide at hv; rw [hu] at hv; unfold Cell.okWide Cell.ok at hv; revert hv; simp [hu]
    | _ => rfl
  rw [hagg] at hr
  obtain ⟨d, rfl⟩ := List.length_eq_one_iff.1 hr.1
  exact ⟨d, ⟨fuel, ht⟩, (hr.2 0 d v rfl rfl).2⟩
/-! ### unpacking -/
def TypedSAll (P : Program) (n : Nat) : List Nat → List (List D) → Prop
  | [], [] => True
  | t :: ts, p :: ps => TypedS P n t p ∧ TypedSAll P n ts ps
  | _, _ => False
theorem typedSAll_of {P : Program} {n : Nat} : ∀ (fs : List Field) (ps : List (List D)), ps.length = fs.length → (∀ (i : Nat) (f : Field) (p : List D), fs[i]? = some f → ps[i]? = some p → TypedS P n f.type p) →
    TypedSAll P n (fs.map (·.type)) ps
  | [], [], _, _ => trivial
  | f :: fs, p :: ps, hl, h => ⟨h 0 f p rfl rfl, typedSAll_of fs ps (by simpa using hl) (fun i f p h1 h2 => h (i + 1) f p (by simpa using h1) (by simpa using h2))⟩
  | [], _ :: _, hl, _ => by simp at hl
  | _ :: _, [], hl, _ => by simp at hl
theorem tys_int {P : Program} {n : Nat} {t : Nat} {ds : List D} (hu : P.underlying t = some (.int .i64)) (h : TypedS P n t ds) : ∃ x, ds = [.v (.int .i64 x)] ∧ I64 x := by
  cases n with
  | zero => exact h.elim
  | succ n =>
  simp only [TypedS, hu] at h
  obtain ⟨x, rfl, hw⟩ := h
  exact ⟨x, rfl, by simp [Lit.wf, IntKind.min, IntKind.max, IntKind.signed, IntKind.bits] at hw; unfold I64; omega⟩
theorem tys_bool {P : Program} {n : Nat} {t : Nat} {ds : List D} (hu : P.underlying t = some .bool) (h : TypedS P n t ds) : ∃ b, ds = [.v (.bool b)] := by
  cases n with
  | zero => exact h.elim
  | succ n => simpa only [TypedS, hu] using h
theorem tys_str {P : Program} {n : Nat} {t : Nat} {ds : List D} (hu : P.underlying t = some .string) (h : TypedS P n t ds) : ∃ s : ByteArray, ds = [.v (.string s)] ∧ s.size ≤ maxLen := by
  cases n with
  | zero => exact h.elim
  | succ n => simpa only [TypedS, hu] using h
theorem tys_sl {P : Program} {n : Nat} {t e es by_ : Nat} {ds : List D} (hu : P.underlying t = some (.slice e)) (hes : P.cellsOf e = es) (hby : P.bytesOf e = by_) (h : TypedS P n t ds) :
    ∃ m xs, n = m + 1 ∧ ds = [.sl es xs] ∧ xs.length ≤ 9223372036854775807 ∧ xs.length * by_ ≤ 140737488355328 ∧ ∀ x ∈ xs, TypedS P m e x ∧ x.length = es := by
  cases n with
  | zero => exact h.elim
  | succ n =>
  simp only [TypedS, hu] at h
  obtain ⟨xs, rfl, hl, hx⟩ := h
  subst hes; subst hby
  exact ⟨n, xs, rfl, rfl, by have := hl.1; unfold maxLen at this; omega, by have := hl.2; unfold reachBytes at this; omega, hx⟩
theorem tys_st {P : Program} {n : Nat} {t : Nat} {ds : List D} {fs : Array Field} {ts : List Nat} (hu : P.underlying t = some (.struct fs)) (hts : fs.toList.map (·.type) = ts) (h : TypedS P n t ds) :
    ∃ (m : Nat) (ps : List (List D)), n = m + 1 ∧ ds = ps.flatten ∧ TypedSAll P m ts ps := by
  cases n with
  | zero => exact h.elim
  | succ n =>
  simp only [TypedS, hu] at h
  obtain ⟨ps, rfl, hl, hi⟩ := h
  exact ⟨n, ps, rfl, rfl, hts ▸ typedSAll_of fs.toList ps (by simpa using hl) (fun i f p h1 h2 => hi i f p (by rwa [Array.getElem?_toList] at h1) h2)⟩
theorem alls_cons {P : Program} {n : Nat} {t : Nat} {ts : List Nat} {ps : List (List D)} (h : TypedSAll P n (t :: ts) ps) : ∃ p qs, ps = p :: qs ∧ TypedS P n t p ∧ TypedSAll P n ts qs := by
  cases ps with
  | nil => exact h.elim
  | cons p qs => exact ⟨p, qs, rfl, h⟩
theorem alls_nil {P : Program} {n : Nat} {ps : List (List D)} (h : TypedSAll P n [] ps) : ps = [] := by
  cases ps with
  | nil => rfl
  | cons p qs => exact h.elim
end Go.Ob
set_option linter.unusedVariables false
set_option linter.unusedSimpArgs false
namespace Go.Ob
open Go.Proofs
/-! ### a table from its cells, with sizes -/
theorem sz_pair {n t : Nat} {ds : List D} {fs : Array Field} (hu : Try.prog.underlying t = some (.struct fs)) (hts : fs.toList.map (·.type) = [3, 3]) (h : TypedS Try.prog n t ds) : ∃ y : Int × Int, True ∧ ds = (fun p : Int × Int => [D.v (.int .i64 p.1), D.v (.int .i64 p.2)]) y := by
  obtain ⟨m0, ps0, _, rfl, a0⟩ := tys_st (ts := [3, 3]) hu hts h
  obtain ⟨p0, q0, rfl, h0, a0⟩ := alls_cons a0
  obtain ⟨p1, q1, rfl, h1, a0⟩ := alls_cons a0
  obtain rfl := alls_nil a0
  obtain ⟨x1, rfl, w1⟩ := tys_int Try.underlying3 h0
  obtain ⟨x2, rfl, w2⟩ := tys_int Try.underlying3 h1
  exact ⟨(x1, x2), trivial, rfl⟩
theorem sz_pairs {n t e : Nat} {ds : List D} {fs : Array Field} (ht : Try.prog.underlying t = some (.slice e)) (hes : Try.prog.cellsOf e = 2) (hby : Try.prog.bytesOf e = 16) (hu : Try.prog.underlying e = some (.struct fs)) (hts : fs.toList.map (·.type) = [3, 3]) (h : TypedS Try.prog n t ds) :
    ∃ ps : List (Int × Int), ds = [.sl 2 (encP ps)] ∧ SlB 2 16 (encP ps) ∧ ps.length ≤ 9223372036854775807 := by
  obtain ⟨m, xs, _, rfl, h1, h2, h3⟩ := tys_sl ht hes hby h
  obtain ⟨l, _, rfl⟩ := enc_list (ok := fun _ : Int × Int => True) (enc := fun p : Int × Int => [D.v (.int .i64 p.1), D.v (.int .i64 p.2)]) xs (fun x hx => sz_pair hu hts (h3 x hx).1)
  exact ⟨l, rfl, ⟨fun x hx => (h3 x hx).2, h2⟩, by simpa using h1⟩
theorem sz_lays {n : Nat} {ds : List D} (h : TypedS Try.prog n 29 ds) : ∃ ly : List Lay4, ds = [.sl 4 (encY ly)] ∧ SlB 4 32 (encY ly) ∧ ly.length ≤ 9223372036854775807 := by
  obtain ⟨m, xs, _, rfl, h1, h2, h3⟩ := tys_sl Try.underlying29 (by kernel_rfl : Try.prog.cellsOf 113 = 4) (by kernel_rfl : Try.prog.bytesOf 113 = 32) h
  obtain ⟨l, _, rfl⟩ := enc_list (ok := fun _ : Lay4 => True) (enc := fun y : Lay4 => [D.v (.int .i64 y.1), .v (.int .i64 y.2.1), .v (.int .i64 y.2.2.1), .v (.bool y.2.2.2)]) xs (fun x hx => by
    obtain ⟨m0, ps0, _, rfl, a0⟩ := tys_st (ts := [3, 3, 3, 4]) Try.underlying113 rfl (h3 x hx).1
    obtain ⟨p0, q0, rfl, h0, a0⟩ := alls_cons a0
    obtain ⟨p1, q1, rfl, h1, a0⟩ := alls_cons a0
    obtain ⟨p2, q2, rfl, h2, a0⟩ := alls_cons a0
    obtain ⟨p3, q3, rfl, h3, a0⟩ := alls_cons a0
    obtain rfl := alls_nil a0
    obtain ⟨x1, rfl, w1⟩ := tys_int Try.underlying3 h0
    obtain ⟨x2, rfl, w2⟩ := tys_int Try.underlying3 h1
    obtain ⟨x3, rfl, w3⟩ := tys_int Try.underlying3 h2
    obtain ⟨x4, rfl⟩ := tys_bool Try.underlying4 h3
    exact ⟨(x1, x2, x3, x4), trivial, rfl⟩)
  exact ⟨l, rfl, ⟨fun x hx => (h3 x hx).2, h2⟩, by simpa using h1⟩
theorem sz_head {n : Nat} {ds : List D} (h : TypedS Try.prog n 33 ds) : ∃ ps a b dl ly, ds = [.sl 2 (encP ps), .v (.int .i64 a), .v (.int .i64 b), .sl 2 (encP dl), .sl 4 (encY ly)] ∧ HeadB ds ∧ HeadT ds := by
  obtain ⟨m1, ps1, _, rfl, a1⟩ := tys_st (ts := [27, 31]) Try.underlying33 rfl h
  obtain ⟨p1_0, q1_0, rfl, h1_0, a1⟩ := alls_cons a1
  obtain ⟨p1_1, q1_1, rfl, h1_1, a1⟩ := alls_cons a1
  obtain rfl := alls_nil a1
  obtain ⟨ps, rfl, b1, l1⟩ := sz_pairs Try.underlying27 (by kernel_rfl : Try.prog.cellsOf 77 = 2) (by kernel_rfl : Try.prog.bytesOf 77 = 16) Try.underlying77 rfl h1_0
  obtain ⟨m3, ps3, _, rfl, a3⟩ := tys_st (ts := [3, 3, 28, 29]) Try.underlying31 rfl h1_1
  obtain ⟨p3_0, q3_0, rfl, h3_0, a3⟩ := alls_cons a3
  obtain ⟨p3_1, q3_1, rfl, h3_1, a3⟩ := alls_cons a3
  obtain ⟨p3_2, q3_2, rfl, h3_2, a3⟩ := alls_cons a3
  obtain ⟨p3_3, q3_3, rfl, h3_3, a3⟩ := alls_cons a3
  obtain rfl := alls_nil a3
  obtain ⟨a, rfl, w4⟩ := tys_int Try.underlying3 h3_0
  obtain ⟨b, rfl, w5⟩ := tys_int Try.underlying3 h3_1
  obtain ⟨dl, rfl, b2, l2⟩ := sz_pairs Try.underlying28 (by kernel_rfl : Try.prog.cellsOf 111 = 2) (by kernel_rfl : Try.prog.bytesOf 111 = 16) Try.underlying111 rfl h3_2
  obtain ⟨ly, rfl, b3, l3⟩ := sz_lays h3_3
  exact ⟨ps, a, b, dl, ly, rfl, ⟨_, a, b, _, _, rfl, b1, b2, b3⟩, ⟨ps, a, b, dl, ly, rfl, l1, l2, l3⟩⟩
theorem sz_flow {I : List D → Prop} {n : Nat} {ds : List D} (hI : ∀ j x, j < n → TypedS Try.prog j 115 x → I x) (h : TypedS Try.prog n 72 ds) : ∃ fl, ds = [.sl 11 fl] ∧ SlB 11 176 fl ∧ (∀ x ∈ fl, I x) ∧ FlowT fl := by
  obtain ⟨m, xs, hm, rfl, h1, h2, h3⟩ := tys_sl Try.underlying72 (by kernel_rfl : Try.prog.cellsOf 115 = 11) (by kernel_rfl : Try.prog.bytesOf 115 = 176) h
  refine ⟨xs, rfl, ⟨fun x hx => (h3 x hx).2, h2⟩, fun x hx => hI m x (by omega) (h3 x hx).1, h1, fun x hx => ?_⟩
  obtain ⟨m0, ps0, _, rfl, a0⟩ := tys_st (ts := [3, 3, 3, 9, 33, 72, 22]) Try.underlying115 rfl (h3 x hx).1
  obtain ⟨p0, q0, rfl, h0, a0⟩ := alls_cons a0
  obtain ⟨p1, q1, rfl, h1, a0⟩ := alls_cons a0
  obtain ⟨p2, q2, rfl, h2, a0⟩ := alls_cons a0
  obtain ⟨p3, q3, rfl, h3, a0⟩ := alls_cons a0
  obtain ⟨x1, rfl, w1⟩ := tys_int Try.underlying3 h0
  obtain ⟨x2, rfl, w2⟩ := tys_int Try.underlying3 h1
  obtain ⟨x3, rfl, w3⟩ := tys_int Try.underlying3 h2
  obtain ⟨s, rfl, w4⟩ := tys_str Try.underlying9 h3
  exact ⟨x1, x2, x3, s, q3.flatten, rfl⟩
theorem sz_cell {I : List D → Prop} {n : Nat} {ds : List D} (hI : ∀ j x, j < n → TypedS Try.prog j 115 x → I x) (h : TypedS Try.prog n 74 ds) : ∃ c : CellD, (CellB I (encC c) ∧ CellT c) ∧ ds = encC c := by
  obtain ⟨m0, ps0, hm, rfl, a0⟩ := tys_st (ts := [3, 33, 72]) Try.underlying74 rfl h
  obtain ⟨p0, q0, rfl, h0, a0⟩ := alls_cons a0
  obtain ⟨p1, q1, rfl, h1, a0⟩ := alls_cons a0
  obtain ⟨p2, q2, rfl, h2, a0⟩ := alls_cons a0
  obtain rfl := alls_nil a0
  obtain ⟨id, rfl, w1⟩ := tys_int Try.underlying3 h0
  obtain ⟨ps, a, b, dl, ly, rfl, hb, ht⟩ := sz_head h1
  obtain ⟨fl, rfl, s1, s2, s3⟩ := sz_flow (fun j x hj => hI j x (by omega)) h2
  exact ⟨⟨.v (.int .i64 id), ps, .v (.int .i64 a), .v (.int .i64 b), .sl 2 (encP dl), .sl 4 (encY ly), fl⟩, ⟨⟨id, _, fl, rfl, hb, s1, s2⟩, ⟨id, rfl⟩, ht, s3⟩, rfl⟩
theorem sz_row {I : List D → Prop} {n : Nat} {ds : List D} (hI : ∀ j x, j < n → TypedS Try.prog j 115 x → I x) (h : TypedS Try.prog n 36 ds) : ∃ r : RowD, ((∃ cs, HeadB [r.hp, r.hi, r.hm, r.hd, r.hl] ∧ encCs r.cells = cs ∧ SlB 7 120 cs ∧ ∀ x ∈ cs, CellB I x) ∧ HeadT [r.hp, r.hi, r.hm, r.hd, r.hl] ∧ r.cells.length ≤ 9223372036854775807 ∧ ∀ c ∈ r.cells, CellT c) ∧ ds = encR r := by
  obtain ⟨m0, ps0, hm, rfl, a0⟩ := tys_st (ts := [33, 34]) Try.underlying36 rfl h
  obtain ⟨p0, q0, rfl, h0, a0⟩ := alls_cons a0
  obtain ⟨p1, q1, rfl, h1, a0⟩ := alls_cons a0
  obtain rfl := alls_nil a0
  obtain ⟨ps, a, b, dl, ly, rfl, hb, ht⟩ := sz_head h0
  obtain ⟨m, xs, hm, rfl, h1, h2, h3⟩ := tys_sl Try.underlying34 (by kernel_rfl : Try.prog.cellsOf 74 = 7) (by kernel_rfl : Try.prog.bytesOf 74 = 120) h1
  obtain ⟨l, hl, rfl⟩ := enc_list (ok := fun c : CellD => CellB I (encC c) ∧ CellT c) (enc := encC) xs (fun x hx => sz_cell (fun j x hj => hI j x (by omega)) (h3 x hx).1)
  exact ⟨⟨.sl 2 (encP ps), .v (.int .i64 a), .v (.int .i64 b), .sl 2 (encP dl), .sl 4 (encY ly), l⟩, ⟨⟨_, hb, rfl, ⟨fun x hx => (h3 x hx).2, h2⟩, fun x hx => by
    obtain ⟨c, hc, rfl⟩ := List.mem_map.1 hx
    exact (hl c hc).1⟩, ht, by simpa using h1, fun c hc => (hl c hc).2⟩, rfl⟩
theorem sz_rows {I : List D → Prop} {n : Nat} {ds : List D} (hI : ∀ j x, j < n → TypedS Try.prog j 115 x → I x) (h : TypedS Try.prog n 22 ds) : ∃ rs : List RowD, ds = [.sl 6 (encRs rs)] ∧ SlB 6 112 (encRs rs) ∧ TabB I rs ∧ TabT rs := by
  obtain ⟨m, xs, hm, rfl, h1, h2, h3⟩ := tys_sl Try.underlying22 (by kernel_rfl : Try.prog.cellsOf 36 = 6) (by kernel_rfl : Try.prog.bytesOf 36 = 112) h
  obtain ⟨l, hl, rfl⟩ := enc_list (enc := encR) xs (fun x hx => sz_row (I := I) (fun j x hj => hI j x (by omega)) (h3 x hx).1)
  exact ⟨l, rfl, ⟨fun x hx => (h3 x hx).2, h2⟩, fun r hr => (hl r hr).1, by simpa using h1, fun r hr => (hl r hr).2⟩
theorem tabB_row {I : List D → Prop} {rs : List RowD} (h : TabB I rs) : ∀ x ∈ encRs rs, RowB I x := fun x hx => by
  obtain ⟨r, hr, rfl⟩ := List.mem_map.1 hx
  obtain ⟨cs, h1, rfl, h3, h4⟩ := h r hr
  exact ⟨_, _, rfl, h1, h3, h4⟩
theorem sz_item : ∀ (m k : Nat) (ds : List D), k ≤ m → TypedS Try.prog k 115 ds → ItemB m ds
  | 0, k, ds, hk, h => by
    obtain rfl : k = 0 := by omega
    exact h.elim
  | m + 1, k, ds, hk, h => by
    obtain ⟨m0, ps0, hm, rfl, a0⟩ := tys_st (ts := [3, 3, 3, 9, 33, 72, 22]) Try.underlying115 rfl h
    obtain ⟨p0, q0, rfl, h0, a0⟩ := alls_cons a0
    obtain ⟨p1, q1, rfl, h1, a0⟩ := alls_cons a0
    obtain ⟨p2, q2, rfl, h2, a0⟩ := alls_cons a0
    obtain ⟨p3, q3, rfl, h3, a0⟩ := alls_cons a0
    obtain ⟨p4, q4, rfl, h4, a0⟩ := alls_cons a0
    obtain ⟨p5, q5, rfl, h5, a0⟩ := alls_cons a0
    obtain ⟨p6, q6, rfl, h6, a0⟩ := alls_cons a0
    obtain rfl := alls_nil a0
    obtain ⟨x1, rfl, w1⟩ := tys_int Try.underlying3 h0
    obtain ⟨x2, rfl, w2⟩ := tys_int Try.underlying3 h1
    obtain ⟨x3, rfl, w3⟩ := tys_int Try.underlying3 h2
    obtain ⟨s, rfl, w4⟩ := tys_str Try.underlying9 h3
    obtain ⟨ps, a, b, dl, ly, rfl, hb, ht⟩ := sz_head h4
    obtain ⟨fl, rfl, s1, s2, s3⟩ := sz_flow (I := ItemB m) (fun j x hj hx => sz_item m j x (by omega) hx) h5
    obtain ⟨rs, rfl, r1, r2, r3⟩ := sz_rows (I := ItemB m) (fun j x hj hx => sz_item m j x (by omega) hx) h6
    exact ⟨x1, x2, x3, s, _, fl, _, rfl, hb, s1, r1, s2, tabB_row r2⟩
theorem open_rowsB {d : D} (h : ∃ n, TypedS Try.prog n 22 [d]) : ∃ (l : List RowD) (m : Nat), TabB (ItemB m) l ∧ TabT l ∧ d = .sl 6 (encRs l) := by
  obtain ⟨n, h⟩ := h
  obtain ⟨l, e, _, h1, h2⟩ := sz_rows (I := ItemB n) (fun j x hj hx => sz_item n j x (by omega) hx) h
  exact ⟨l, n, h1, h2, by simpa using e⟩
theorem open_three {d : D} (h : TypedV Try.prog 62 d) : ∃ a b c : Int, d = .agg [.v (.int .i64 a), .v (.int .i64 b), .v (.int .i64 c)] := by
  obtain ⟨n, ds, rfl, hd⟩ := tv_st Try.underlying62 h
  obtain ⟨m0, ps0, rfl, a0⟩ := ty_st (ts := [3, 3, 3]) Try.underlying62 rfl hd
  obtain ⟨p0, q0, rfl, h0, a0⟩ := all_cons a0
  obtain ⟨p1, q1, rfl, h1, a0⟩ := all_cons a0
  obtain ⟨p2, q2, rfl, h2, a0⟩ := all_cons a0
  obtain rfl := all_nil a0
  obtain ⟨x1, rfl, w1⟩ := ty_int Try.underlying3 h0
  obtain ⟨x2, rfl, w2⟩ := ty_int Try.underlying3 h1
  obtain ⟨x3, rfl, w3⟩ := ty_int Try.underlying3 h2
  exact ⟨x1, x2, x3, rfl⟩
end Go.Ob
