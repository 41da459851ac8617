import Derived.Test.YtcmkgijekibdaaaQ2
set_option linter.unusedVariables false
set_option linter.unusedSimpArgs false
namespace Go.Ob
open Go.Proofs
/-! ### calls that read what the caller owns; a guarded call of yield; iterators with captured data and a captured box -/
def flatD : D → Prop
  | .v _ => True
  | .tup [.v _, .v _] => True
  | .tup [.v _] => True
  | _ => False
theorem flat_rep {w : World} {o o' : Nat → Prop} {d : D} {u : Value} (h : Rep w o d u) (hf : flatD d) : Rep w o' d u := by
  cases h with
  | v => exact .v _
  | tup ds vs hs hr =>
    match ds, hf with
    | [.v a], _ =>
      refine .tup _ vs hs fun j d u hd hu => ?_
      match j with
      | 0 => cases hd; rw [Rep.of_v (hr 0 _ u rfl hu)]; exact .v _
      | j + 1 => simp at hd
    | [.v a, .v b], _ =>
      refine .tup _ vs hs fun j d u hd hu => ?_
      match j with
      | 0 => cases hd; rw [Rep.of_v (hr 0 _ u rfl hu)]; exact .v _
      | 1 => cases hd; rw [Rep.of_v (hr 1 _ u rfl hu)]; exact .v _
      | j + 2 => simp at hd
  | _ => exact hf.elim
section
variable {P : Program} {H : Hp} {env : Env} {dst : Option Tmp} {ty : TypeId} {pos : String} {af : Array Edge} {gd : Option (Nat × Bool)}
/-- A call of a function that only reads, of whose arguments some lead to what the caller owns. -/
theorem pure_callF {f : FuncId} {args : Array Operand} {ts : Array TypeId} {ds ds' : List D} {r : D} (ha : ArgsD env args.toList ds) (hz : FrzL (· ∈ H) ds ds') (hf : Fun P f ds' r) (hfl : flatD r)
    (hc : ∀ (as0 : Array Value) (w : World), (callFunc f as0).run P w = .ok (.enter f as0) w) :
    Pure P H ⟨dst, .call { callee := .value (.func f), args := args, argTypes := ts }, ty, pos, af, gd⟩ env r := by
  intro w F a hh hF hx r0 next Q hn
  obtain ⟨hl, hr⟩ := ha.rep (w := w) (o := both F H) (ρ := a.eval) fun x hxm => hx x (by simp [Op.operands, Call.operands] ; exact .inr (by simpa using hxm))
  obtain ⟨hz1, hz2⟩ := hz.spec
  have hcall := hf w F (args.toList.map a.eval) (by omega) (fun j d' u hd' hu => by
      have hlt : j < ds.length := by rw [hz1]; exact (List.getElem?_eq_some_iff.1 hd').1
      refine frz_rep (M := (· ∈ H)) (o' := both F []) (fun b hb => ⟨hh.each b hb, fun g hg hg' => ?_⟩) (fun g hg => hg.elim .inl (fun h => absurd h (own_nil g))) (hz2 j _ d' (List.getElem?_eq_getElem hlt) hd') (hr j _ u (List.getElem?_eq_getElem hlt) hu)
      rcases hg' with h | h
      · exact (hF.lt g h).2 ⟨b, hb, hg⟩
      · exact own_nil g h) (HeapOK.nil _ _) ⟨fun g hg => ⟨(hF.lt g hg).1, own_nil g⟩, hF.glob.less fun g hg => absurd hg (own_nil g)⟩
  have hrun : (execOp a.eval ⟨dst, .call { callee := .value (.func f), args := args, argTypes := ts }, ty, pos, af, gd⟩).run P w = .ok (.enter f (args.toList.map a.eval).toArray) w := by
    have e3 : (List.map a.eval args.toList).toArray = Array.map a.eval args := by rw [← List.map_toArray]
    simp [execOp, resolve, Deferred.ofValue, Act.eval, invoke, hc, e3]
    done
  refine wpIn_ok (fun _ h => by cases h) hrun ⟨fen_shallow, calls_fen (hcall.mono ?_)⟩
  rintro e w' ⟨v, r', H', rfl, ⟨rfl, rfl⟩, hrep, _, hk, _⟩
  exact hn v w' (flat_rep hrep hfl) (hk.mono fun b _ hb => absurd hb (own_nil b))
end
section
variable {K : Ctx} {Q : Exit → Env → Hp → Prop} {env : Env} {H H1 H2 H1' : Hp} {ops : Array Oper} {rest : List Oper} {t : Nat} {ty : TypeId} {pos : String} {af : Array Edge}
/-- A guarded call of yield, that runs. -/
theorem TL.yieldG {j gt : Nat} {gb : Bool} (hg : (ops[j]?).bind (·.dst) = some gt) (hgb : env gt = some (.v (.bool gb))) {l : Nat} {fo : Operand} {args : Array Operand} {ts : Array TypeId} {ds : List D} {R : Bool → Hp → Prop} (hr0 : K.r = none) (hs : SplitR H H1 H2) (hfo : opD env fo = some (.v (.func (.yield l) #[] #[])))
    (hy : YieldD K.P l ds H1 R K.w0 K.S K.F) (ha : ArgsD env args.toList ds) (hd : Nat.blt t K.n = true)
    (h : ∀ b H', R b H' → TL K ops rest Q (env.put t (some (.v (.bool b)))) (H' ++ H2)) :
    TL K ops (⟨some t, .call { callee := .value fo, args := args, argTypes := ts }, ty, pos, af, some (j, gb)⟩ :: rest) Q env H := fun a w hsat => by
  unfold wpListIn
  have hw : Want ops ⟨some t, .call { callee := .value fo, args := args, argTypes := ts }, ty, pos, af, some (j, gb)⟩ env true := ⟨gt, .bool gb, hg, hgb, by cases gb <;> rfl⟩
  rw [if_pos (hw.wanted hsat)]
  obtain ⟨hl, hr⟩ := ha.rep (w := w) (o := both K.F H) (ρ := a.eval) fun x hxm => fun dx hx => hsat.eval hx
  obtain ⟨rc, hrc, hps, hround⟩ := hy w (both K.F H2) (args.toList.map a.eval) hsat.kept (fun g hg => .inl hg) (fun g hg => by
      rcases hg with hg | hg
      · exact .inl hg
      · exact .inr (hsat.fresh g ((hs.own g).2 (.inr hg)))) (fun g hg => hsat.fresh g ((hs.own g).2 (.inl hg))) hl
    (fun j d u hd hu => (hr j d u hd hu).fewer fun g => part_set hs) (hsat.heap.part hs) (part_F hsat.heap hs hsat.F_lt)
  have hfo' := Rep.of_v (hsat.eval hfo)
  have e3 : (List.map a.eval args.toList).toArray = Array.map a.eval args := by rw [← List.map_toArray]
  have hrun : (execOp a.eval ⟨some t, .call { callee := .value fo, args := args, argTypes := ts }, ty, pos, af, some (j, gb)⟩).run K.P w = .ok (.round l rc.fn ((rc.params.zip (args.toList.map a.eval).toArray).foldl (fun tmps (t, a) => tmps.setIfInBounds t a) rc.tmps) rc.assign rc.body) w := by
    have := run_yield (P := K.P) (args := Array.map a.eval args) hrc (by rw [← hps]; simp)
    rw [e3]
    simp [execOp, resolve, Deferred.ofValue, hfo', invoke, this]
  have hfen : fen K.r = Fence.wide := by rw [hr0]; rfl
  refine wpIn_ok (fun _ h => by cases h) hrun ⟨fen_shallow, ?_⟩
  rw [hfen]
  refine RoundIn.mono hround ?_
  rintro e w' ⟨b, H', rfl, hR, hh, hk, hfr⟩
  have hs' := hsat.frame hs hh hk hfr
  have := h b H' hR _ _ (hs'.put (dst := some t) (od := some (.v (.bool b))) (v := .bool b) (Kept.refl _ _) (fun t' e => by cases e; simpa [Nat.blt_eq] using hd) fun d hd' => by cases hd'; exact .v _)
  rw [hfen] at this
  exact this
end
/-- An iterator with captured data and a captured box, which it owns. It ends behind xs (fin), or the rounds never let it come so far. -/
def SeqC (P : Program) (f : FuncId) (pre : List D) (g T : Nat) (cs : List D) (xs : List (List D)) (fin : Prop) : Prop :=
  ∀ (l : Nat) (J Jx : Nat → Hp → Prop) (w1 : World) (F1 : Nat → Prop) (H0 : Hp) (vs : List Value), vs.length = pre.length →
    (∀ (j : Nat) (d : D) (u : Value), pre[j]? = some d → vs[j]? = some u → Rep w1 (both F1 (.box g T cs :: H0)) d u) → HeapOK w1 (both F1 (.box g T cs :: H0)) (.box g T cs :: H0) → Foreign P F1 w1 (own (.box g T cs :: H0)) → J 0 H0 →
    (fin ∨ ∀ H, ¬ J xs.length H) →
    (∀ k x H, xs[k]? = some x → J k H → YieldD P l x H (fun b H' => if b = true then J (k + 1) H' else Jx (k + 1) H') w1 (own (.box g T cs :: H0)) F1) →
    Calls P f (.func (.yield l) #[] #[] :: (vs ++ [.pointer (some ⟨g, 0, none⟩)])).toArray w1 fun e w' => ∃ v H', e = .returned v ∧ (J xs.length H' ∨ ∃ k, Jx k H') ∧ HeapOK w' (both F1 H') H' ∧ Kept (own (.box g T cs :: H0)) w1 w' ∧ ∀ g', own H' g' → own (.box g T cs :: H0) g' ∨ w1.heap.size ≤ g'
theorem TC.rangeFuncC {K : Ctx} {Q : Exit → Env → Hp → Prop} {env : Env} {go : Operand} {ps : Array Tmp} {assign body : Code} {f : FuncId} {pre : List D} {g T : Nat} {cs : List D} {xs : List (List D)} {fin : Prop} {Hr : Hp} (hr0 : K.r = none) (hg : opD env go = some (.fn f (pre ++ [.v (.pointer (some ⟨g, 0, none⟩))])))
    (hc : ∀ (as0 : Array Value) (w : World), (callFunc f as0).run K.P w = .ok (.enter f as0) w) (hseq : SeqC K.P f pre g T cs xs fin) (J : Nat → Hp → Prop) (Jx : Exit → Hp → Prop) (h0 : J 0 Hr) (hfin : fin ∨ ∀ H, ¬ J xs.length H)
    (hxs : ∀ x ∈ xs, x.length = ps.size) (hps : ps.toList.all (fun p => Nat.blt p K.n) = true)
    (hround : ∀ (k : Nat) (x : List D) (Hc : Hp) (w : World) (F S : Nat → Prop) (l : Nat), xs[k]? = some x → J k Hc → TC ⟨K.P, K.n, w, F, S, some l⟩ assign (fun e env' H' => e = .normal ∧ ∀ (w : World) (F S : Nat → Prop), TC ⟨K.P, K.n, w, F, S, some l⟩ body (roundA (J (k + 1)) Jx) env' H') (env.puts ps.toList x) Hc)
    (hdone : ∀ Hc, J xs.length Hc → Q .normal env Hc) (hret : ∀ Hc, Jx .ret Hc → Q .ret env Hc) (hexit : ∀ id Hc, Jx (.exit id) Hc → Q (.exit id) env Hc) :
    TC K (.rangeFunc go ps assign body) Q env (.box g T cs :: Hr) := by
  refine TC.rangeFuncG Hr hr0 hg hc J ?_ Jx h0 hxs hps hround hdone hret hexit
  intro l ob J' Jx' w1 vs hJJ hvl hvr hh hF hJ hy
  have hlen : vs.length = pre.length + 1 := by simpa using hvl
  obtain ⟨vs1, u, rfl⟩ : ∃ vs1 u, vs = vs1 ++ [u] := by
    rcases List.eq_nil_or_concat vs with rfl | ⟨a, b, rfl⟩
    · simp at hlen
    · exact ⟨a, b, by simp⟩
  have hl1 : vs1.length = pre.length := by simpa using hlen
  have hu : u = .pointer (some ⟨g, 0, none⟩) := Rep.of_v (hvr pre.length _ u (by simp) (by rw [← hl1]; simp))
  subst hu
  rw [own_swap] at hF hy ⊢
  rw [both_swap] at hh
  refine hseq l J' Jx' w1 K.F (.obj l ob :: Hr) vs1 hl1 (fun j d u hd hu => ?_) hh.swap hF hJ (hfin.imp id fun h H' hJ' => ?_) hy
  · have := hvr j d u (by rw [List.getElem?_append_left (List.getElem?_eq_some_iff.1 hd).1]; exact hd) (by rw [List.getElem?_append_left (List.getElem?_eq_some_iff.1 hu).1]; exact hu)
    rwa [both_swap] at this
  · obtain ⟨Hc, hc'⟩ := hJJ _ _ hJ'
    exact h Hc hc'
theorem SeqC.enter {P : Program} {f n : Nat} {fn : Func} {c : Code} {pre : List D} {g T : Nat} {cs : List D} {xs : List (List D)} {fin : Prop} (hf : P.funcs[f]? = some fn) (hb : fn.body = some c) (hn : fn.ntmps = n) (hr : fn.results = #[]) (hl : Nat.ble (pre.length + 2) n = true)
    (h : ∀ (l : Nat) (J Jx : Nat → Hp → Prop) (w : World) (F : Nat → Prop) (H0 : Hp), J 0 H0 → (fin ∨ ∀ H, ¬ J xs.length H) → (∀ k x H, xs[k]? = some x → J k H → YieldD P l x H (fun b H' => if b = true then J (k + 1) H' else Jx (k + 1) H') w (own (.box g T cs :: H0)) F) →
      TC ⟨P, n, w, F, own (.box g T cs :: H0), none⟩ c (RetA P #[] (fun _ H' => J xs.length H' ∨ ∃ k, Jx k H')) (Env.args 0 (.v (.func (.yield l) #[] #[]) :: (pre ++ [.v (.pointer (some ⟨g, 0, none⟩))]))) (.box g T cs :: H0)) : SeqC P f pre g T cs xs fin := by
  subst hn
  intro l J Jx w1 F1 H0 vs hvl hvr hh hF h0 hfin hy
  have hb' : pre.length + 2 ≤ fn.ntmps := Nat.le_of_ble_eq_true hl
  refine (calls_of_body (ds := .v (.func (.yield l) #[] #[]) :: (pre ++ [.v (.pointer (some ⟨g, 0, none⟩))])) hf hb (by simpa using hb') (hr ▸ h l J Jx w1 F1 H0 h0 hfin hy) (by simp [hvl]) (fun j d u hd hu => ?_) hh hF).mono ?_
  · match j with
    | 0 => simp at hd hu; subst hd; subst hu; exact .v _
    | j + 1 =>
      simp only [List.getElem?_cons_succ] at hd hu
      rcases Nat.lt_or_ge j pre.length with hj | hj
      · rw [List.getElem?_append_left hj] at hd
        rw [List.getElem?_append_left (by omega)] at hu
        exact hvr j d u hd hu
      · rw [List.getElem?_append_right hj] at hd
        rw [List.getElem?_append_right (by omega), hvl] at hu
        cases h' : j - pre.length with
        | zero => rw [h'] at hd hu; cases hd; cases hu; exact .v _
        | succ m => rw [h'] at hd; simp at hd
  · rintro e w' ⟨v, r, H', rfl, hR, _, h1, h2, h3⟩
    exact ⟨v, H', rfl, hR, h1, h2, h3⟩
/-! ### the first index -/
theorem fiN_pos (p : Sty → Bool) : ∀ (l : List Sty) (i : Nat), 0 ≤ fiN p l i → ∃ j, j < l.length ∧ fiN p l i = ((i + j : Nat) : Int) ∧ p (yAt l j) = true ∧ ∀ k, k < j → p (yAt l k) = false
  | [], _, h => by simp [fiN] at h
  | s :: l, i, h => by
    by_cases hp : p s = true
    · exact ⟨0, by simp, by rw [fiN, if_pos hp]; rfl, by simpa [yAt] using hp, fun k hk => by omega⟩
    · rw [fiN, if_neg hp] at h
      obtain ⟨j, h1, h2, h3, h4⟩ := fiN_pos p l (i + 1) h
      refine ⟨j + 1, by simpa using h1, by rw [fiN, if_neg hp, h2]; omega, by simpa [yAt] using h3, fun k hk => ?_⟩
      cases k with
      | zero => simpa [yAt] using hp
      | succ k => simpa [yAt] using h4 k (by omega)
theorem fiN_no (p : Sty → Bool) : ∀ (l : List Sty) (i : Nat), ¬ 0 ≤ fiN p l i → ∀ j, j < l.length → p (yAt l j) = false
  | [], _, _, j, hj => by simp at hj
  | s :: l, i, h, j, hj => by
    by_cases hp : p s = true
    · rw [fiN, if_pos hp] at h; omega
    · rw [fiN, if_neg hp] at h
      cases j with
      | zero => simpa [yAt] using hp
      | succ j => simpa [yAt] using fiN_no p l (i + 1) h j (by simpa using hj)
theorem findS_pos {l : List Sty} {id : Int} (h : 0 ≤ findS l id) : ∃ j : Nat, j < l.length ∧ findS l id = (j : Int) ∧ (yAt l j).id = id ∧ ∀ k, k < j → (yAt l k).id ≠ id := by
  obtain ⟨j, h1, h2, h3, h4⟩ := fiN_pos _ l 0 h
  exact ⟨j, h1, by unfold findS; rw [h2, Nat.zero_add], by simpa using h3, fun k hk => by simpa using h4 k hk⟩
theorem findS_no {l : List Sty} {id : Int} (h : ¬ 0 ≤ findS l id) (j : Nat) (hj : j < l.length) : (yAt l j).id ≠ id := by
  simpa using fiN_no _ l 0 h j hj
def IncS (l : List Sty) : Prop := ∀ i j, i < j → j < l.length → (yAt l i).id < (yAt l j).id
theorem IncS.find {l : List Sty} (hs : IncS l) {j : Nat} (hj : j < l.length) : findS l (yAt l j).id = (j : Int) := by
  by_cases h : 0 ≤ findS l (yAt l j).id
  · obtain ⟨k, h1, h2, h3, h4⟩ := findS_pos h
    rcases Nat.lt_trichotomy k j with hk | hk | hk
    · have := hs k j hk hj; omega
    · rw [h2, hk]
    · exact absurd rfl (h4 j hk)
  · exact absurd rfl (findS_no h j hj)
theorem IncS.inj {l : List Sty} (hs : IncS l) {i j : Nat} (hi : i < l.length) (hj : j < l.length) (h : (yAt l i).id = (yAt l j).id) : i = j := by
  have h1 := hs.find hi
  have h2 := hs.find hj
  rw [h, h2] at h1
  omega
/-! ### chains: they end, or never -/
theorem pigeon : ∀ (n : Nat) (f : Nat → Nat), (∀ i, i ≤ n → f i < n) → ∃ i j, i < j ∧ j ≤ n ∧ f i = f j
  | 0, f, h => by have := h 0 (Nat.le_refl _); omega
  | n + 1, f, h => by
    by_cases hc : ∃ i, i ≤ n ∧ f i = f (n + 1)
    · obtain ⟨i, h1, h2⟩ := hc
      exact ⟨i, n + 1, by omega, Nat.le_refl _, h2⟩
    · have hc' : ∀ i, i ≤ n → f i ≠ f (n + 1) := fun i hi he => hc ⟨i, hi, he⟩
      have hl := h (n + 1) (Nat.le_refl _)
      obtain ⟨i, j, h1, h2, h3⟩ := pigeon n (fun i => if f i = n then f (n + 1) else f i) (fun i hi => by
        have h1 := h i (by omega)
        have h2 := hc' i hi
        (try dsimp only)
        split <;> omega)
      refine ⟨i, j, h1, by omega, ?_⟩
      (try dsimp only at h3)
      have hi := hc' i (by omega)
      have hj := hc' j (by omega)
      split at h3 <;> split at h3 <;> omega
def LinkS (l : List Sty) : Prop := ∀ i, i < l.length → (yAt l i).base = 0 ∨ isP l (yAt l i).kind (yAt l i).base
theorem sq_found {l : List Sty} (hk : LinkS l) {id : Int} (h0 : id = 0 ∨ 0 ≤ findS l id) : ∀ k, sq l id k ≠ 0 → (∀ j, j < k → sq l id j ≠ 0) → 0 ≤ findS l (sq l id k)
  | 0, h, _ => by rcases h0 with h0 | h0; exact absurd h0 h; exact h0
  | k + 1, h, hj => by
    have h1 := sq_found hk h0 k (hj k (by omega)) (fun j h => hj j (by omega))
    obtain ⟨i, h2, h3, h4, _⟩ := findS_pos h1
    rw [sq, h3, Int.toNat_natCast] at h ⊢
    rcases hk i h2 with h5 | h5
    · exact absurd h5 h
    · exact h5.1
theorem sq_add (l : List Sty) (id : Int) (i j : Nat) (h : sq l id i = sq l id j) : ∀ m, sq l id (i + m) = sq l id (j + m)
  | 0 => h
  | m + 1 => by rw [← Nat.add_assoc, ← Nat.add_assoc, sq, sq, sq_add l id i j h m]
theorem sq_ever {l : List Sty} (hk : LinkS l) {id : Int} (h0 : 0 ≤ findS l id) (h : ∀ k, k ≤ l.length → sq l id k ≠ 0) (k : Nat) : sq l id k ≠ 0 := by
  have hf : ∀ k, k ≤ l.length → 0 ≤ findS l (sq l id k) := fun k hkl => sq_found hk (.inr h0) k (h k hkl) (fun j hj => h j (by omega))
  obtain ⟨i, j, h1, h2, h3⟩ := pigeon l.length (fun k => (findS l (sq l id k)).toNat) (fun k hkl => by
    have h1 := hf k hkl
    have h2 := findS_range l (sq l id k)
    omega)
  (try dsimp only at h3)
  have e : sq l id i = sq l id j := by
    obtain ⟨a, _, a2, a3, _⟩ := findS_pos (hf i (by omega))
    obtain ⟨b, _, b2, b3, _⟩ := findS_pos (hf j (by omega))
    rw [a2, b2] at h3
    simp only [Int.toNat_natCast] at h3
    subst h3
    rw [← a3, b3]
  induction k using Nat.strongRecOn with
  | ind k ih =>
    rcases Nat.lt_or_ge l.length k with hlt | hle
    · have := sq_add l id i j e (k - j)
      rw [show j + (k - j) = k by omega] at this
      rw [← this]
      exact ih _ (by omega)
    · exact h k hle
theorem takeWhile_range (p : Nat → Bool) (n m : Nat) (h : ∀ k, k < n → p k = true) (hn : p n = false) (hm : n < m) : ((List.range m).takeWhile p).length = n := by
  obtain ⟨r, rfl⟩ : ∃ r, m = n + (r + 1) := ⟨m - n - 1, by omega⟩
  rw [List.range_add, List.range_succ_eq_map, List.map_cons, List.takeWhile_append_of_pos (by simpa using h), List.takeWhile_cons, if_neg (by simp [hn])]
  simp
/-- the number of styles of a chain that ends -/
def chN (l : List Sty) (id : Int) : Nat := ((List.range (l.length + 1)).takeWhile fun k => decide (sq l id k ≠ 0)).length
theorem chN_eq {l : List Sty} {id : Int} {n : Nat} (h : ChOk l id n) (hn : n ≤ l.length) : chN l id = n :=
  takeWhile_range _ _ _ (fun k hk => by simpa using (h.on k hk).1) (by simp [h.off]) (by omega)
theorem chOk_of {l : List Sty} (hk : LinkS l) {id : Int} (h0 : id = 0 ∨ 0 ≤ findS l id) {k : Nat} (hkl : k ≤ l.length) (hz : sq l id k = 0) : ∃ n, n ≤ l.length ∧ ChOk l id n := by
  have : ∀ k, sq l id k = 0 → ∃ n, n ≤ k ∧ sq l id n = 0 ∧ ∀ j, j < n → sq l id j ≠ 0 := by
    intro k
    induction k using Nat.strongRecOn with
    | ind k ih =>
      intro hz
      by_cases hc : ∃ j, j < k ∧ sq l id j = 0
      · obtain ⟨j, h1, h2⟩ := hc
        obtain ⟨n, h3, h4, h5⟩ := ih j h1 h2
        exact ⟨n, by omega, h4, h5⟩
      · exact ⟨k, Nat.le_refl _, hz, fun j hj he => hc ⟨j, hj, he⟩⟩
  obtain ⟨n, h1, h2, h3⟩ := this k hz
  exact ⟨n, by omega, ⟨fun j hj => ⟨h3 j hj, sq_found hk h0 j (h3 j hj) (fun i hi => h3 i (by omega))⟩, h2⟩⟩
theorem sq_zero (l : List Sty) : ChOk l 0 0 := ⟨fun k hk => by omega, rfl⟩
end Go.Ob
set_option linter.unusedVariables false
set_option linter.unusedSimpArgs false
namespace Go.Ob
open Go.Proofs
/-! ### properties: checked lists; the two merges; groups -/
def GoodP (ps : List (Int × Int)) : Prop := Inc (keysP ps) ∧ ∀ p ∈ ps, inI (keysK tableK) p.1 = true
theorem firstErr_iff (f : Int → Int) (n : Nat) : firstErr f n = 0 ↔ ∀ j : Int, 0 ≤ j → j < n → f j = 0 := by
  constructor
  · induction n with
    | zero => intro _ j h0 h1; omega
    | succ n ih =>
      intro h j h0 h1
      rw [firstErr] at h
      by_cases hn : firstErr f n = 0
      · rw [if_neg (by simpa using hn)] at h
        by_cases hj : j < n
        · exact ih hn j h0 hj
        · rw [show j = (n : Int) by omega]; exact h
      · rw [if_pos hn] at h; exact absurd h hn
  · exact firstErr_zero f n
theorem inc_of_pAt {ps : List (Int × Int)} (h : ∀ i : Int, 0 < i → i < ps.length → (pAt ps (i - 1)).1 < (pAt ps i).1) : Inc (keysP ps) := by
  unfold Inc
  rw [List.pairwise_iff_getElem]
  have step : ∀ i j : Nat, i < j → j < ps.length → (pAt ps i).1 < (pAt ps j).1 := by
    intro i j hij
    induction j with
    | zero => omega
    | succ j ih =>
      intro hj
      have h1 := h ((j + 1 : Nat) : Int) (by omega) (by omega)
      rw [show ((j + 1 : Nat) : Int) - 1 = (j : Int) by omega] at h1
      rcases Nat.lt_or_ge i j with h2 | h2
      · exact Int.lt_trans (ih h2 (by omega)) h1
      · rw [show i = j by omega]; exact h1
  intro i j hi hj hij
  rw [keysP_len] at hi hj
  have := step i j hij hj
  have e : ∀ k (hk : k < ps.length), (keysP ps)[k]'(by rw [keysP_len]; exact hk) = (pAt ps (k : Nat)).1 := fun k hk => by simp [keysP, pAt, hk]
  rw [e i hi, e j hj]; exact this
theorem pAt_mem {ps : List (Int × Int)} {i : Int} (h0 : 0 ≤ i) (h1 : i < ps.length) : pAt ps i ∈ ps := by
  unfold pAt
  have : i.toNat < ps.length := by omega
  simp [this]
theorem mem_pAt {ps : List (Int × Int)} {p : Int × Int} (h : p ∈ ps) : ∃ i : Int, 0 ≤ i ∧ i < ps.length ∧ pAt ps i = p := by
  obtain ⟨k, hk, rfl⟩ := List.getElem_of_mem h
  exact ⟨(k : Int), by omega, by omega, by simp [pAt, hk]⟩
theorem inc_pAt {ps : List (Int × Int)} (h : Inc (keysP ps)) {i : Int} (h0 : 0 < i) (h1 : i < ps.length) : (pAt ps (i - 1)).1 < (pAt ps i).1 := by
  have := h.lt (i := i.toNat - 1) (j := i.toNat) (by omega) (by rw [keysP_len]; omega)
  rw [kAt_keysP _ _ (by omega), kAt_keysP _ _ (by omega)] at this
  rwa [show (((i.toNat - 1 : Nat)) : Int) = i - 1 by omega, show ((i.toNat : Nat) : Int) = i by omega] at this
theorem checkP_iff {e : Int} (h1 : 1 ≤ e) (h2 : e ≤ 10) (ps : List (Int × Int)) : checkP e ps = 0 ↔ Inc (keysP ps) ∧ ∀ p ∈ ps, fitsP e p.1 = true ∧ checkV p.1 p.2 = 0 := by
  unfold checkP
  rw [if_neg (by omega), firstErr_iff]
  constructor
  · intro h
    have step : ∀ j : Int, 0 ≤ j → j < ps.length → fitsP e (pAt ps j).1 = true ∧ (j > 0 → (pAt ps (j - 1)).1 < (pAt ps j).1) ∧ checkV (pAt ps j).1 (pAt ps j).2 = 0 := by
      intro j h0 hj
      have := h j h0 hj
      unfold errAt at this
      split at this
      · omega
      · rename_i hf
        split at this
        · omega
        · rename_i ha
          split at this
          · omega
          · rename_i hb
            exact ⟨by simpa using hf, fun hp => by omega, this⟩
    exact ⟨inc_of_pAt fun i h0 hi => (step i (by omega) hi).2.1 h0, fun p hp => by
      obtain ⟨i, h0, hi, rfl⟩ := mem_pAt hp
      exact ⟨(step i h0 hi).1, (step i h0 hi).2.2⟩⟩
  · rintro ⟨hi, hp⟩ j h0 hj
    obtain ⟨h3, h4⟩ := hp _ (pAt_mem h0 hj)
    unfold errAt
    rw [if_neg (by simp [h3])]
    by_cases hz : j > 0
    · have := inc_pAt hi hz hj
      rw [if_neg (by omega), if_neg (by omega)]; exact h4
    · rw [if_neg (by omega), if_neg (by omega)]; exact h4
theorem fits_key {e key : Int} (h : fitsP e key = true) : inI (keysK tableK) key = true ∧ (findK key).group ∈ groupsOf e := by
  unfold fitsP at h
  simpa using h
theorem checkP_good {e : Int} {ps : List (Int × Int)} (h1 : 1 ≤ e) (h2 : e ≤ 10) (h : checkP e ps = 0) : GoodP ps := by
  obtain ⟨h3, h4⟩ := (checkP_iff h1 h2 ps).1 h
  exact ⟨h3, fun p hp => (fits_key (h4 p hp).1).1⟩
theorem hasP_look : ∀ (l : List (Int × Int)) (k : Int), hasP l k = (lookP l k).isSome
  | [], _ => rfl
  | p :: l, k => by
    rw [lookP, hasP, List.any_cons]
    by_cases hp : p.1 = k
    · rw [if_pos hp]; simp [hp]
    · rw [if_neg hp]
      have := hasP_look l k
      unfold hasP at this
      rw [this]; simp [hp]
theorem look_mem_iff {l : List (Int × Int)} (h : Inc (keysP l)) {k v : Int} : lookP l k = some v ↔ (k, v) ∈ l := by
  induction l with
  | nil => simp [lookP]
  | cons p l ih =>
    obtain ⟨h1, h2⟩ := Inc.cons'.1 h
    rw [lookP]
    by_cases hp : p.1 = k
    · rw [if_pos hp]
      constructor
      · intro e; cases e; simp [← hp]
      · intro e
        rcases List.mem_cons.1 e with e | e
        · rw [← e]
        · have := h1 _ e; dsimp only at this; omega
    · rw [if_neg hp, ih h2]
      constructor
      · intro e; exact List.mem_cons_of_mem _ e
      · intro e
        rcases List.mem_cons.1 e with e | e
        · exact absurd (by rw [← e]) hp
        · exact e
theorem look_some_mem {l : List (Int × Int)} {k v : Int} (h : lookP l k = some v) : (k, v) ∈ l := by
  induction l with
  | nil => simp [lookP] at h
  | cons p l ih =>
    rw [lookP] at h
    by_cases hp : p.1 = k
    · rw [if_pos hp] at h; cases h; simp [← hp]
    · rw [if_neg hp] at h; exact List.mem_cons_of_mem _ (ih h)
theorem tK_inc {i j : Nat} (h : i < j) (hj : j < tableK.length) : tK i < tK j := by
  have := tableK_inc.lt h (by rw [keysK_len]; exact hj)
  rwa [kAt_keysK _ _ (by omega), kAt_keysK _ _ hj] at this
theorem inT_iff (k : Int) : inI (keysK tableK) k = true ↔ ∃ i, i < tableK.length ∧ tK i = k := by
  constructor
  · intro h
    have hf := find_in k h
    have hk : (findK k).num = k := by
      unfold findK; rw [if_pos h]
      unfold inI at h
      rw [decide_eq_true_eq] at h
      rw [← kAt_keysK _ _ (by rw [← keysK_len]; exact h.1)]; exact h.2
    obtain ⟨i, hi, he⟩ := List.getElem_of_mem hf
    refine ⟨i, hi, ?_⟩
    unfold tK eAt
    rw [Int.toNat_natCast, List.getD_eq_getElem?_getD, List.getElem?_eq_getElem hi, Option.getD_some, he, hk]
  · rintro ⟨i, hi, he⟩
    exact (findK_at k i (by omega) (by rw [tableK_len] at hi; omega) he).1
theorem mTo_inc (lo up : List (Int × Int)) : ∀ n, n ≤ tableK.length → Inc (keysP (mTo lo up n)) ∧ (∀ p ∈ mTo lo up n, ∃ i, i < n ∧ tK i = p.1) ∧ ∀ k, (∃ i, i < n ∧ tK i = k) → lookP (mTo lo up n) k = (lookP up k).or (lookP lo k)
  | 0, _ => ⟨by simp [mTo, Inc, keysP], by simp [mTo], fun k ⟨i, h, _⟩ => by omega⟩
  | n + 1, hn => by
    obtain ⟨h1, h2, h3⟩ := mTo_inc lo up n (by omega)
    have hlt : ∀ p ∈ mTo lo up n, p.1 < tK n := fun p hp => by
      obtain ⟨i, hi, he⟩ := h2 p hp
      have := tK_inc hi (by omega); omega
    have hno : lookP (mTo lo up n) (tK n) = none := lookP_none _ _ fun p hp => by have := hlt p hp; omega
    rw [mTo]
    refine ⟨?_, ?_, ?_⟩
    · refine Inc.append.2 ⟨h1, ?_, ?_⟩
      · (repeat' split) <;> simp [Inc, keysP]
      · intro p hp q hq
        have := hlt p hp
        split at hq
        · simp only [List.mem_singleton] at hq; subst hq; exact this
        · split at hq
          · simp only [List.mem_singleton] at hq; subst hq; exact this
          · cases hq
    · intro p hp
      rcases List.mem_append.1 hp with hp | hp
      · obtain ⟨i, hi, he⟩ := h2 p hp
        exact ⟨i, by omega, he⟩
      · refine ⟨n, by omega, ?_⟩
        split at hp
        · simp only [List.mem_singleton] at hp; subst hp; rfl
        · split at hp
          · simp only [List.mem_singleton] at hp; subst hp; rfl
          · cases hp
    · rintro k ⟨i, hi, he⟩
      rw [lookP_append]
      rcases Nat.lt_or_ge i n with hlt2 | hge
      · rw [h3 k ⟨i, hlt2, he⟩]
        have hne : tK n ≠ k := by have := tK_inc hlt2 (by omega); omega
        have : lookP (if hasP up (tK n) = true then [(tK n, getP up (tK n) 0)] else if hasP lo (tK n) = true then [(tK n, getP lo (tK n) 0)] else []) k = none := by
          (repeat' split) <;> simp [lookP, hne]
        rw [this, Option.or_none]
      · have hin : i = n := by omega
        subst hin
        rw [← he, hno, Option.none_or, hasP_look, hasP_look, getP_look, getP_look]
        cases h4 : lookP up (tK i) with
        | some v => simp [lookP]
        | none =>
          cases h5 : lookP lo (tK i) with
          | some v => simp [lookP]
          | none => simp [lookP]
theorem mergeP_mem {a b : List (Int × Int)} (ha : Inc (keysP a)) (hb : Inc (keysP b)) {p : Int × Int} (h : p ∈ mergeP a b) : p ∈ a ∨ p ∈ b := by
  obtain ⟨h1, h2⟩ := mergeP_spec a b ha hb
  have h3 := (look_mem_iff h1 (k := p.1) (v := p.2)).2 h
  rw [h2] at h3
  cases h4 : lookP b p.1 with
  | some v => rw [h4] at h3; cases h3; exact .inr (look_some_mem h4)
  | none => rw [h4, Option.none_or] at h3; exact .inl (look_some_mem h3)
theorem GoodP.merge {a b : List (Int × Int)} (ha : GoodP a) (hb : GoodP b) : GoodP (mergeP a b) :=
  ⟨(mergeP_spec a b ha.1 hb.1).1, fun p hp => (mergeP_mem ha.1 hb.1 hp).elim (ha.2 p) (hb.2 p)⟩
theorem GoodP.nil : GoodP [] := ⟨by simp [Inc, keysP], by simp⟩
theorem merT_eq {a b : List (Int × Int)} (ha : GoodP a) (hb : GoodP b) : merT a b = mergeP a b := by
  obtain ⟨h1, h2⟩ := mergeP_spec a b ha.1 hb.1
  obtain ⟨h3, h4, h5⟩ := mTo_inc a b tableK.length (Nat.le_refl _)
  refine lookP_ext _ _ h3 h1 fun k => ?_
  by_cases hk : ∃ i, i < tableK.length ∧ tK i = k
  · rw [merT, h5 k hk, h2]
  · have hno : ∀ l : List (Int × Int), GoodP l → lookP l k = none := fun l hl => lookP_none _ _ fun p hp he => hk ((inT_iff k).1 (by rw [← he]; exact hl.2 p hp))
    rw [h2, hno _ ha, hno _ hb, merT, lookP_none _ _ fun p hp he => hk (by rw [← he]; exact h4 p hp)]; rfl
/-! ### groups -/
def grp (g : Int) (ps : List (Int × Int)) : List (Int × Int) := ps.filter fun p => decide ((findK p.1).group = g)
theorem inG_iff {g key : Int} (hg : g ≠ 0) : inG g key ↔ (findK key).group = g := by
  unfold inG
  constructor
  · exact fun h => h.2
  · intro h
    refine ⟨?_, h⟩
    by_cases hi : inI (keysK tableK) key = true
    · exact hi
    · unfold findK at h
      rw [if_neg hi] at h
      exact absurd h.symm hg
theorem takeN_snoc (l : List (Int × Int)) (n : Nat) (h : n < l.length) : l.take (n + 1) = l.take n ++ [pAt l n] := by
  have := takeP_snoc l (n : Int) (by omega) (by omega)
  rwa [show ((n : Int) + 1).toNat = n + 1 by omega, Int.toNat_natCast] at this
theorem gTo_eq (ps : List (Int × Int)) {g : Int} (hg : g ≠ 0) : ∀ n, n ≤ ps.length → gTo ps g n = grp g (ps.take n)
  | 0, _ => by simp [gTo, grp]
  | n + 1, h => by
    rw [gTo, gTo_eq ps hg n (by omega), takeN_snoc ps n (by omega)]
    unfold grp
    rw [List.filter_append]
    congr 1
    by_cases hp : (findK (pAt ps n).1).group = g
    · rw [if_pos ((inG_iff hg).2 hp)]; simp [hp]
    · rw [if_neg (fun h => hp ((inG_iff hg).1 h))]; simp [hp]
theorem gTo_all (ps : List (Int × Int)) {g : Int} (hg : g ≠ 0) : gTo ps g ps.length = grp g ps := by
  rw [gTo_eq ps hg _ (Nat.le_refl _), List.take_length]
theorem grp_inc {ps : List (Int × Int)} (h : Inc (keysP ps)) (g : Int) : Inc (keysP (grp g ps)) := by
  unfold Inc keysP grp at *
  exact List.Pairwise.sublist ((List.filter_sublist).map _) h
theorem grp_look (g : Int) : ∀ (ps : List (Int × Int)) (k : Int), lookP (grp g ps) k = if (findK k).group = g then lookP ps k else none
  | [], k => by simp [grp, lookP]
  | p :: ps, k => by
    have ih := grp_look g ps k
    unfold grp at *
    by_cases hp : (findK p.1).group = g
    · rw [List.filter_cons_of_pos (by simpa using hp), lookP, lookP, ih]
      by_cases hk : p.1 = k
      · rw [if_pos hk, if_pos hk, if_pos (hk ▸ hp)]
      · rw [if_neg hk, if_neg hk]
    · rw [List.filter_cons_of_neg (by simpa using hp), ih, lookP]
      by_cases hk : p.1 = k
      · rw [if_neg (hk ▸ hp), if_neg (hk ▸ hp)]
      · rw [if_neg hk]
theorem GoodP.grp {ps : List (Int × Int)} (h : GoodP ps) (g : Int) : GoodP (grp g ps) := ⟨grp_inc h.1 g, fun p hp => h.2 p (List.mem_filter.1 hp).1⟩
theorem grp_merge {a b : List (Int × Int)} (ha : Inc (keysP a)) (hb : Inc (keysP b)) (g : Int) : grp g (mergeP a b) = mergeP (grp g a) (grp g b) := by
  obtain ⟨h1, h2⟩ := mergeP_spec a b ha hb
  obtain ⟨h3, h4⟩ := mergeP_spec _ _ (grp_inc ha g) (grp_inc hb g)
  refine lookP_ext _ _ (grp_inc h1 g) h3 fun k => ?_
  rw [grp_look, h2, h4, grp_look, grp_look]
  split <;> simp
theorem grp_id {g : Int} {ps : List (Int × Int)} (h : ∀ p ∈ ps, (findK p.1).group = g) : grp g ps = ps := by
  unfold grp; exact List.filter_eq_self.2 fun p hp => by simpa using h p hp
theorem grp_len (g : Int) (ps : List (Int × Int)) : (grp g ps).length ≤ ps.length := List.length_filter_le _ _
/-! ### effective properties -/
def yF (l : List Sty) (id : Int) : Sty := yAt l (findS l id).toNat
def efQ (l : List Sty) (id : Int) : Nat → List (Int × Int)
  | 0 => []
  | k + 1 => mergeP (yF l (sq l id k)).props (efQ l id k)
/-- the first value from step a on, in c steps -/
def fstV (f : Nat → Option Int) (a : Nat) : Nat → Option Int
  | 0 => none
  | c + 1 => (f a).or (fstV f (a + 1) c)
theorem fstV_snoc (f : Nat → Option Int) : ∀ (c a : Nat), fstV f a (c + 1) = (fstV f a c).or (f (a + c))
  | 0, a => by simp [fstV]
  | c + 1, a => by
    rw [fstV, fstV_snoc f c (a + 1), fstV, Option.or_assoc, show a + 1 + c = a + (c + 1) by omega]
theorem efQ_spec {l : List Sty} {id : Int} {n : Nat} (hp : ∀ k, k < n → GoodP (yF l (sq l id k)).props) : ∀ k, k ≤ n → GoodP (efQ l id k) ∧ ∀ x, lookP (efQ l id k) x = fstV (fun j => lookP (yF l (sq l id j)).props x) 0 k
  | 0, _ => ⟨GoodP.nil, fun x => rfl⟩
  | k + 1, h => by
    obtain ⟨h1, h2⟩ := efQ_spec hp k (by omega)
    have h3 := hp k (by omega)
    refine ⟨h3.merge h1, fun x => ?_⟩
    rw [efQ, (mergeP_spec _ _ h3.1 h1.1).2, h2, fstV_snoc, Nat.zero_add]
theorem efR_spec {l : List Sty} {id : Int} {n : Nat} (hp : ∀ k, k < n → GoodP (yF l (sq l id k)).props) : ∀ m, m ≤ n → GoodP (efR l id n m) ∧ ∀ x, lookP (efR l id n m) x = fstV (fun j => lookP (yF l (sq l id j)).props x) (n - m) m
  | 0, _ => ⟨GoodP.nil, fun x => rfl⟩
  | m + 1, h => by
    obtain ⟨h1, h2⟩ := efR_spec hp m (by omega)
    have h3 := hp (n - 1 - m) (by omega)
    have e : efR l id n (m + 1) = mergeP (efR l id n m) (yF l (sq l id (n - 1 - m))).props := by rw [efR]; exact merT_eq h1 h3
    rw [e]
    refine ⟨h1.merge h3, fun x => ?_⟩
    rw [(mergeP_spec _ _ h1.1 h3.1).2, h2, fstV, show n - (m + 1) = n - 1 - m by omega, show n - 1 - m + 1 = n - m by omega]
theorem efR_eq {l : List Sty} {id : Int} {n : Nat} (hp : ∀ k, k < n → GoodP (yF l (sq l id k)).props) : efR l id n n = efQ l id n := by
  obtain ⟨h1, h2⟩ := efR_spec hp n (Nat.le_refl _)
  obtain ⟨h3, h4⟩ := efQ_spec hp n (Nat.le_refl _)
  exact lookP_ext _ _ h1.1 h3.1 fun x => by rw [h2, h4, Nat.sub_self]
/-- the effective properties of a style; none for 0 -/
def effP (l : List Sty) (id : Int) : List (Int × Int) := efQ l id (chN l id)
theorem efQ_mem {l : List Sty} {id : Int} {n : Nat} (hp : ∀ k, k < n → GoodP (yF l (sq l id k)).props) : ∀ k, k ≤ n → ∀ p ∈ efQ l id k, ∃ j, j < k ∧ p ∈ (yF l (sq l id j)).props
  | 0, _, p, h => by cases h
  | k + 1, hk, p, h => by
    rw [efQ] at h
    rcases mergeP_mem (hp k (by omega)).1 (efQ_spec hp k (by omega)).1.1 h with h | h
    · exact ⟨k, by omega, h⟩
    · obtain ⟨j, h1, h2⟩ := efQ_mem hp k (by omega) p h
      exact ⟨j, by omega, h2⟩
end Go.Ob
set_option linter.unusedVariables false
set_option linter.unusedSimpArgs false
namespace Go.Ob
open Go.Proofs

theorem TC.freezeBox {K : Ctx} {Q : Exit → Env → Hp → Prop} {env : Env} {H H' : Hp} {c : Code} {g T : Nat} {cs : List D} (t : Nat) (hne : cs ≠ []) (hd : DelR (.box g T cs) H H') (ht : env t = some (.v (.pointer (some ⟨g, 0, none⟩)))) (h : TC K c Q (env.put t (some (.at_ cs))) H') : TC K c Q env H :=
  TC.view (fun a w hs => hs.frz hd.sub.1 fun t' d' hd' => by
    rcases Env.put_some hd' with ⟨rfl, e⟩ | ⟨_, e⟩
    · cases e; exact ⟨_, ht, .boxS ⟨hd.sub.2, hd.apart hs.heap.apart⟩ hne⟩
    · exact ⟨d', e, .same d'⟩) h
/-- the map that chain makes: from ids to indices -/
def MapTo (l : List Sty) (i : Nat) (m : IM) : Prop := NodupI m ∧ ∀ x : Int, lookI m x = none ∧ (∀ k, k < i → (yAt l k).id ≠ x) ∨ ∃ k : Nat, k < i ∧ (yAt l k).id = x ∧ lookI m x = some (k : Int)
theorem MapTo.nil (l : List Sty) : MapTo l 0 [] := ⟨List.Pairwise.nil, fun x => .inl ⟨rfl, fun k h => by omega⟩⟩
theorem MapTo.step {l : List Sty} (hinc : IncS l) {i : Nat} (hi : i < l.length) {m : IM} (h : MapTo l i m) : MapTo l (i + 1) (insI m (yAt l i).id (i : Int)) := by
  refine ⟨h.1.ins _ _, fun x => ?_⟩
  rw [lookI_ins]
  by_cases hx : (yAt l i).id = x
  · rw [if_pos hx]; exact .inr ⟨i, by omega, hx, rfl⟩
  · rw [if_neg hx]
    rcases h.2 x with ⟨h1, h2⟩ | ⟨k, h1, h2, h3⟩
    · refine .inl ⟨h1, fun k hk => ?_⟩
      rcases Nat.lt_or_eq_of_le (Nat.le_of_lt_succ hk) with h | h
      · exact h2 k h
      · rw [h]; exact hx
    · exact .inr ⟨k, by omega, h2, h3⟩
theorem MapTo.find {l : List Sty} {m : IM} (hinc : IncS l) (h : MapTo l l.length m) {x : Int} (hx : 0 ≤ findS l x) : lookI m x = some (findS l x) := by
  obtain ⟨j, h1, h2, h3, _⟩ := findS_pos hx
  rcases h.2 x with ⟨_, h5⟩ | ⟨k, h4, h5, h6⟩
  · exact absurd h3 (h5 j h1)
  · rw [h6, ← h5, hinc.find h4]
section
variable {P : Program} {H : Hp} {env : Env} {dst : Option Tmp} {ty : TypeId} {pos : String} {af : Array Edge} {gd : Option (Nat × Bool)}
theorem pure_lookI_some {x y : Operand} {t kt et g : Nat} {m : IM} {a j : Int} (ht : MapT P t kt et (.int .i64 0) isInt) (hx : opD env x = some (.v (.map (some g)))) (hy : opD env y = some (.v (.int .i64 a)))
    (hnd : NodupI m) (hm : Blk.mp g (keysI m) (valsI m) ∈ H) (hj : lookI m a = some j) :
    Pure P H ⟨dst, .lookup t x y true, ty, pos, af, gd⟩ env (.tup [.v (.int .i64 j), .v (.bool true)]) := by
  have := pure_lookI (dst := dst) (ty := ty) (pos := pos) (af := af) (gd := gd) ht hx hy hnd hm
  simpa [hj] using this
end
def chD (l : List Sty) (id : Int) (n : Nat) : List (List D) := (List.range n).map fun k => [.agg (encSt (yF l (sq l id k)))]
theorem chD_len (l : List Sty) (id : Int) (n : Nat) : (chD l id n).length = n := by simp [chD]
theorem chD_get (l : List Sty) (id : Int) (n k : Nat) (h : k < n) : (chD l id n)[k]? = some [.agg (encSt (yF l (sq l id k)))] := by simp [chD, h]
set_option maxRecDepth 100000 in
theorem chain_spec (l : List Sty) (id : Int) : CallD Try.prog 46 [.sl 6 (encSs l), .v (.int .i64 id)] [] (fun r H' => ∃ g, r = .fn 70 [.at_ [.sl 6 (encSs l)], .v (.pointer (some ⟨g, 0, none⟩))] ∧ H' = [.box g 3 [.v (.int .i64 id)]]) := by
  refine CallD.enter (n := 6) (rs := [.tmp 4]) Try.func46 rfl Try.ntmps46 Try.results46 rfl (fun w F => ?_)
  refine TC.seq ?_; refine TC.region ?_
  refine TL.box rfl (.one rfl) rfl (fun g2 => ?_)
  refine TL.box rfl (.one rfl) rfl (fun g3 => ?_)
  refine TL.run1 (pure_assign rfl) rfl ?_; refine TL.nil' ?_; refine TC.seq ?_; refine TC.freezeBox 2 (List.cons_ne_nil _ _) (.there _ (.here _)) rfl ?_; refine TC.region ?_; refine TL.run1 (pure_makeFunc (.cons rfl (.cons rfl .nil))) rfl ?_; refine TL.run1 (pure_assign rfl) rfl ?_; refine TL.nil' ?_; refine TC.ret ?_
  exact ⟨.inl rfl, [_], .tmp rfl .nil, _, List.Sublist.refl _, _, rfl, rfl⟩
set_option maxRecDepth 100000 in
theorem chain_seq (l : List Sty) (id : Int) (N g : Nat) (hinc : IncS l) (hl : l.length ≤ 1000000) (hN : ∀ k, k < N → sq l id k ≠ 0 ∧ 0 ≤ findS l (sq l id k)) : SeqC Try.prog 70 [.at_ [.sl 6 (encSs l)]] g 3 [.v (.int .i64 id)] (chD l id N) (sq l id N = 0) := by
  refine SeqC.enter Try.func70 rfl Try.ntmps70 Try.results70 rfl (fun lr J Jx w F H0 hJ0 hfin hy => ?_)
  have hkl := encSs_len l
  refine TC.seq ?_; refine TC.region ?_
  refine TL.makeMap rfl (fun g9 => ?_)
  refine TL.run1 (pure_assign rfl) rfl ?_; refine TL.nil' ?_; refine TC.seq ?_; refine TC.seq ?_; refine TC.region ?_
  first | refine TL.run1 (pure_load1 Ty.one22 rfl) rfl ?_ | refine TL.run1 (pure_load1_own Ty.one22 rfl (by repeat (first | exact List.Mem.head _ | apply List.Mem.tail)) (by repeat (first | exact DropR.zero _ | apply DropR.succ))) rfl ?_
  first | refine TL.run1 (pure_len Ty.sl22 rfl) rfl ?_ | refine TL.run1 (pure_len_row Ty.sl22 rfl (by repeat (first | exact List.Mem.head _ | apply List.Mem.tail))) rfl ?_ | refine TL.run1 (pure_len_nil Ty.sl22 rfl) rfl ?_
  refine TL.run1 (pure_move rfl) rfl ?_; refine TL.nil' ?_; refine TC.block ?_; refine TC.loopX (X := Nat × IM) (fun (i, m) => [(0, .v (.func (.yield lr) #[] #[])), (1, .at_ [.sl 6 (encSs l)]), (2, .v (.pointer (some ⟨g, 0, none⟩))), (4, .v (.map (some g9))), (10, .sl 6 (encSs l)), (11, .v (.int .i64 (encSs l).length)), (12, .v (.int .i64 i))]) (fun (i, m) => (Blk.mp g9 (keysI m) (valsI m) :: Blk.box g 3 [.v (.int .i64 (sq l id 0))] :: H0)) (fun (i, m) => (i ≤ l.length) ∧ (MapTo l i m)) (fun (i, m) => l.length - i) (0, []) ⟨by skip; repeat (first | exact Agree.nil | refine Agree.cons rfl ?_), by skip; repeat (first | exact List.nil_sublist _ | exact List.Sublist.refl _ | apply List.Sublist.cons_cons | apply List.Sublist.cons)⟩ ?_ ?_
  · skip
    exact ⟨Nat.zero_le _, MapTo.nil l⟩
  rintro ⟨i, m⟩
  rintro ⟨h1, hm⟩
  show TC _ _ _ (Env.of [(0, .v (.func (.yield lr) #[] #[])), (1, .at_ [.sl 6 (encSs l)]), (2, .v (.pointer (some ⟨g, 0, none⟩))), (4, .v (.map (some g9))), (10, .sl 6 (encSs l)), (11, .v (.int .i64 (encSs l).length)), (12, .v (.int .i64 i))]) (Blk.mp g9 (keysI m) (valsI m) :: Blk.box g 3 [.v (.int .i64 (sq l id 0))] :: H0)
  refine TC.seq ?_; refine TC.region ?_; refine TL.run1 (pure_lss rfl rfl) rfl ?_; refine TL.nil' ?_; refine TC.seq ?_
  first | refine TC.condD rfl (fun hc13 => ?_) (fun hc13 => ?_) | refine TC.condN rfl (fun hc13 => ?_) (fun hc13 => ?_) | refine TC.cond rfl (fun hc13 => ?_) (fun hc13 => ?_)
  · try dsimp only at hc13
    refine TC.skip' ?_; refine TC.seq ?_; refine TC.block ?_; refine TC.seq ?_
    have hrow := encSs_get l i (by omega)
    refine TC.region ?_; refine TL.run1 (pure_move rfl) rfl ?_; refine TL.run1 (pure_indexAddr Ty.sl22 rfl rfl (by omega) hrow (List.cons_ne_nil _ _)) rfl ?_
    first | refine TL.run1 (pure_load Ty.agg28 rfl (.succ (.succ (.succ (.succ (.succ (.succ (.zero _)))))))) rfl ?_ | refine TL.run1 (pure_load_own Ty.agg28 rfl (by repeat (first | exact List.Mem.head _ | apply List.Mem.tail)) (by repeat (first | exact DropR.zero _ | apply DropR.succ)) (.succ (.succ (.succ (.succ (.succ (.succ (.zero _)))))))) rfl ?_
    refine TL.alloc Ty.zero28 rfl (fun g6 => ?_)
    refine TL.run1 (pure_assign rfl) rfl ?_; refine TL.store rfl rfl (.agg _) Try.sizeOf28 rfl (by repeat (first | exact UpdR.here _ | apply UpdR.there)) (by repeat (first | exact PutR.nil _ | apply PutR.here | apply PutR.skip)) ?_; refine TL.nil' ?_; refine TC.region ?_; refine TL.run1 (pure_move rfl) rfl ?_
    first | refine TL.run1 (pure_fieldAddr Ty.f28_0 rfl (.zero _) (List.cons_ne_nil _ _)) rfl ?_ | refine TL.run1 (pure_fieldAddr_own Ty.f28_0 rfl) rfl ?_
    first | refine TL.run1 (pure_load1 Ty.one3 rfl) rfl ?_ | refine TL.run1 (pure_load1_own Ty.one3 rfl (by repeat (first | exact List.Mem.head _ | apply List.Mem.tail)) (by repeat (first | exact DropR.zero _ | apply DropR.succ))) rfl ?_
    refine TL.run1 (pure_move rfl) rfl ?_; refine TL.insertI map91 rfl rfl rfl hm.1 (by repeat (first | exact UpdR.here _ | apply UpdR.there)) ?_; refine TL.nil ?_; refine block_normal ?_; refine then_normal ?_; refine TC.region ?_; refine TL.run1 (pure_add rfl rfl (mkI64 (by omega) (by omega))) rfl ?_; refine TL.run1 (pure_move rfl) rfl ?_; refine TL.nil ?_
    refine loop_next (i + 1, insI m (yAt l i).id (i : Int)) ⟨by ((try dsimp only); rw [show (((i + 1 : Nat)) : Int) = (i : Int) + 1 by omega]; repeat (first | exact Agree.nil | refine Agree.cons rfl ?_)), by repeat (first | exact List.nil_sublist _ | exact List.Sublist.refl _ | apply List.Sublist.cons_cons | apply List.Sublist.cons)⟩ ⟨by omega, hm.step hinc (by omega)⟩ (by dsimp only; omega)
  · try dsimp only at hc13
    have hie : i = l.length := by omega
    rw [hie] at hm
    refine TC.exit ?_; refine then_exit ?_; refine loop_exit ?_; refine block_here ?_; refine then_normal ?_; refine TC.block ?_; refine TC.loopX (X := Nat × Hp) (fun (k, Hc) => [(0, .v (.func (.yield lr) #[] #[])), (1, .at_ [.sl 6 (encSs l)]), (2, .v (.pointer (some ⟨g, 0, none⟩))), (4, .v (.map (some g9)))]) (fun (k, Hc) => (Blk.mp g9 (keysI m) (valsI m) :: Blk.box g 3 [.v (.int .i64 (sq l id k))] :: Hc)) (fun (k, Hc) => (k ≤ N) ∧ (J k Hc)) (fun (k, Hc) => N - k) (0, H0) ⟨by skip; repeat (first | exact Agree.nil | refine Agree.cons rfl ?_), by skip; repeat (first | exact List.nil_sublist _ | exact List.Sublist.refl _ | apply List.Sublist.cons_cons | apply List.Sublist.cons)⟩ ?_ ?_
    · skip
      exact ⟨Nat.zero_le _, hJ0⟩
    rintro ⟨k, Hc⟩
    rintro ⟨hk, hJ⟩
    show TC _ _ _ (Env.of [(0, .v (.func (.yield lr) #[] #[])), (1, .at_ [.sl 6 (encSs l)]), (2, .v (.pointer (some ⟨g, 0, none⟩))), (4, .v (.map (some g9)))]) (Blk.mp g9 (keysI m) (valsI m) :: Blk.box g 3 [.v (.int .i64 (sq l id k))] :: Hc)
    refine TC.seq ?_; refine TC.seq ?_; refine TC.region ?_
    first | refine TL.run1 (pure_load1 Ty.one3 rfl) rfl ?_ | refine TL.run1 (pure_load1_own Ty.one3 rfl (by repeat (first | exact List.Mem.head _ | apply List.Mem.tail)) (by repeat (first | exact DropR.zero _ | apply DropR.succ))) rfl ?_
    refine TL.run1 (pure_neq rfl rfl) rfl ?_; refine TL.nil' ?_
    first | refine TC.condD rfl (fun hc23 => ?_) (fun hc23 => ?_) | refine TC.condN rfl (fun hc23 => ?_) (fun hc23 => ?_) | refine TC.cond rfl (fun hc23 => ?_) (fun hc23 => ?_)
    · try dsimp only at hc23
      have hkN : k < N := by (rcases Nat.lt_or_eq_of_le hk with h | h; exact h; (subst h; rcases hfin with h2 | h2; exact absurd h2 hc23; exact absurd hJ (by rw [chD_len] at h2; exact h2 Hc)))
      obtain ⟨_, hf0⟩ := hN k hkN
      have hlk := hm.find hinc hf0
      have hfr := findS_range l (sq l id k)
      have hrow := encSs_get l (findS l (sq l id k)).toNat (by omega)
      rw [show (((findS l (sq l id k)).toNat : Nat) : Int) = findS l (sq l id k) by omega] at hrow
      have hxm : (chD l id N)[k]? = some [.agg [.v (.int .i64 (yAt l (findS l (sq l id k)).toNat).id), .v (.int .i64 (yAt l (findS l (sq l id k)).toNat).kind), .v (.string (yAt l (findS l (sq l id k)).toNat).name), .v (.int .i64 (yAt l (findS l (sq l id k)).toNat).base), .v (.int .i64 (yAt l (findS l (sq l id k)).toNat).next), .sl 2 (encP (yAt l (findS l (sq l id k)).toNat).props)]] := chD_get l id N k hkN
      refine TC.skip' ?_; refine TC.block ?_; refine TC.seq ?_; refine TC.region ?_; refine TL.run1 (pure_move rfl) rfl ?_
      first | refine TL.run1 (pure_load1 Ty.one3 rfl) rfl ?_ | refine TL.run1 (pure_load1_own Ty.one3 rfl (by repeat (first | exact List.Mem.head _ | apply List.Mem.tail)) (by repeat (first | exact DropR.zero _ | apply DropR.succ))) rfl ?_
      refine TL.run1 (pure_lookI_some map91 rfl rfl hm.1 (by repeat (first | exact List.Mem.head _ | apply List.Mem.tail)) hlk) rfl ?_; refine TL.run1 (pure_move rfl) rfl ?_; refine TL.run1 (pure_extract rfl rfl) rfl ?_; refine TL.run1 (pure_extract rfl rfl) rfl ?_; refine TL.run1 (pure_assign rfl) rfl ?_; refine TL.run1 (pure_assign rfl) rfl ?_; refine TL.nil' ?_; refine TC.seq ?_; refine TC.seq ?_; refine TC.region ?_; refine TL.run1 (pure_move rfl) rfl ?_; refine TL.run1 (pure_not rfl) rfl ?_; refine TL.run1 (pure_move rfl) rfl ?_
      first | refine TL.splitP 32 rfl (fun hg32 => ?_) (fun hg32 => ?_) | refine TL.split 32 rfl (fun hg32 => ?_) (fun hg32 => ?_)
      · try dsimp only at hg32
        exact absurd hg32 (by decide)
      · try dsimp only at hg32
        refine TL.runG rfl rfl (pure_move rfl) rfl ?_
        first | refine TL.runG rfl rfl (pure_load1 Ty.one22 rfl) rfl ?_ | refine TL.runG rfl rfl (pure_load1_own Ty.one22 rfl (by repeat (first | exact List.Mem.head _ | apply List.Mem.tail)) (by repeat (first | exact DropR.zero _ | apply DropR.succ))) rfl ?_
        refine TL.runG rfl rfl (pure_move rfl) rfl ?_; refine TL.runG rfl rfl (pure_indexAddr Ty.sl22 rfl rfl (by omega) hrow (List.cons_ne_nil _ _)) rfl ?_
        first | refine TL.runG rfl rfl (pure_load Ty.agg28 rfl (.succ (.succ (.succ (.succ (.succ (.succ (.zero _)))))))) rfl ?_ | refine TL.runG rfl rfl (pure_load_own Ty.agg28 rfl (by repeat (first | exact List.Mem.head _ | apply List.Mem.tail)) (by repeat (first | exact DropR.zero _ | apply DropR.succ)) (.succ (.succ (.succ (.succ (.succ (.succ (.zero _)))))))) rfl ?_
        refine TL.yieldG rfl rfl rfl (.right (.right (SplitR.all _))) rfl (hy _ _ Hc hxm hJ) (.cons rfl .nil) rfl (fun bb H1 hR => ?_)
        refine TL.perm (H' := Blk.mp g9 (keysI m) (valsI m) :: Blk.box g 3 [.v (.int .i64 (sq l id k))] :: H1) List.perm_append_comm ?_; refine TL.runG rfl rfl (pure_not rfl) rfl ?_; refine TL.run1 (pure_pick_false rfl rfl) rfl ?_; refine TL.nil' ?_
        first | refine TC.condD rfl (fun hc40 => ?_) (fun hc40 => ?_) | refine TC.condN rfl (fun hc40 => ?_) (fun hc40 => ?_) | refine TC.cond rfl (fun hc40 => ?_) (fun hc40 => ?_)
        · try dsimp only at hc40
          have hcy : bb = false := by simpa using hc40
          refine TC.ret ?_; refine then_ret ?_; refine block_ret ?_; refine loop_ret ?_; refine block_ret ?_
          exact ⟨.inl rfl, [], .nil, H1, .cons _ (.cons _ (List.Sublist.refl _)), .inr ⟨_, by (have h := hR; simp only [hcy, Bool.false_eq_true, if_false] at h; exact h)⟩⟩
        · try dsimp only at hc40
          have hcy : bb = true := by simpa using hc40
          refine TC.skip' ?_; refine TC.region ?_
          first | refine TL.run1 (pure_load1 Ty.one22 rfl) rfl ?_ | refine TL.run1 (pure_load1_own Ty.one22 rfl (by repeat (first | exact List.Mem.head _ | apply List.Mem.tail)) (by repeat (first | exact DropR.zero _ | apply DropR.succ))) rfl ?_
          refine TL.run1 (pure_move rfl) rfl ?_; refine TL.run1 (pure_indexAddr Ty.sl22 rfl rfl (by omega) hrow (List.cons_ne_nil _ _)) rfl ?_
          first | refine TL.run1 (pure_fieldAddr Ty.f28_3 rfl (.succ (.succ (.succ (.zero _)))) (List.cons_ne_nil _ _)) rfl ?_ | refine TL.run1 (pure_fieldAddr_own Ty.f28_3 rfl) rfl ?_
          first | refine TL.run1 (pure_load1 Ty.one3 rfl) rfl ?_ | refine TL.run1 (pure_load1_own Ty.one3 rfl (by repeat (first | exact List.Mem.head _ | apply List.Mem.tail)) (by repeat (first | exact DropR.zero _ | apply DropR.succ))) rfl ?_
          refine TL.store rfl rfl (.one (by first | rfl | assumption)) Try.sizeOf3 rfl (by repeat (first | exact UpdR.here _ | apply UpdR.there)) (by repeat (first | exact PutR.nil _ | apply PutR.here | apply PutR.skip)) ?_; refine TL.nil ?_; refine block_normal ?_
          refine loop_next (k + 1, H1) ⟨by ((try dsimp only); repeat (first | exact Agree.nil | refine Agree.cons rfl ?_)), by (try dsimp only); rw [sq]; repeat (first | exact List.nil_sublist _ | exact List.Sublist.refl _ | apply List.Sublist.cons_cons | apply List.Sublist.cons)⟩ ⟨by omega, by have h := hR; simp only [hcy, if_true] at h; exact h⟩ (by dsimp only; omega)
    · try dsimp only at hc23
      have hke : k = N := by (rcases Nat.lt_or_eq_of_le hk with h | h; exact absurd (hN k h).1 (by omega); exact h)
      subst hke
      refine TC.exit ?_; refine then_exit ?_; refine loop_exit ?_; refine block_here ?_
      exact ⟨.inr rfl, [], .nil, Hc, .cons _ (.cons _ (List.Sublist.refl _)), .inl (by rw [chD_len]; exact hJ)⟩
end Go.Ob
set_option linter.unusedVariables false
set_option linter.unusedSimpArgs false
namespace Go.Ob
open Go.Proofs
instance exDec (n : Nat) (p : Nat → Prop) [DecidablePred p] : Decidable (∃ i, i < n ∧ p i) := decidable_of_iff ((List.range n).any (fun i => decide (p i)) = true) (by simp)
instance allDec (n : Nat) (p : Nat → Prop) [DecidablePred p] : Decidable (∀ i, i ≤ n → p i) := decidable_of_iff ((List.range (n + 1)).all (fun i => decide (p i)) = true) (by simp [Nat.lt_succ_iff])
def badP (l : List Sty) (i : Nat) : Prop := ((yAt l i).base ≠ 0 ∧ ¬ isP l (yAt l i).kind (yAt l i).base) ∨ ((yAt l i).next ≠ 0 ∧ ((yAt l i).kind = 2 ∨ ¬ isP l 1 (yAt l i).next))
instance (l : List Sty) (i : Nat) : Decidable (badP l i) := by unfold badP; infer_instance
def cycP (l : List Sty) (i : Nat) : Prop := ∀ k, k ≤ l.length → sq l (yAt l i).id k ≠ 0
instance (l : List Sty) (i : Nat) : Decidable (cycP l i) := by unfold cycP; exact allDec _ _
def ownF (l : List Sty) : Int := firstErr (fun j => ownE l j.toNat) l.length
/-- the first error of a list of styles -/
def checkS (l : List Sty) : Int := if l.length > 128 then 9 else if ownF l ≠ 0 then ownF l else if ∃ i, i < l.length ∧ badP l i then 25 else if ∃ i, i < l.length ∧ cycP l i then 16 else 0
theorem ownF_zero {l : List Sty} : ownF l = 0 ↔ ∀ j, j < l.length → ownE l j = 0 := by
  unfold ownF
  rw [firstErr_iff]
  constructor
  · intro h j hj; simpa using h (j : Int) (by omega) (by omega)
  · intro h j h0 h1; exact h j.toNat (by omega)
theorem ownF_at {l : List Sty} {i : Nat} (hi : i < l.length) (hz : ∀ j, j < i → ownE l j = 0) (hne : ownE l i ≠ 0) : ownF l = ownE l i := by
  have := firstErr_at (fun j => ownE l j.toNat) (i : Int) (by omega) (fun j h0 h1 => hz j.toNat (by omega)) (by simpa using hne) l.length (by omega)
  unfold ownF; rw [this]; simp
structure OwnOk (l : List Sty) (i : Nat) : Prop where
  lo : 1 ≤ (yAt l i).id
  hi : (yAt l i).id ≤ 1073741824
  inc : 0 < i → (yAt l (i - 1)).id < (yAt l i).id
  kind : (yAt l i).kind = 1 ∨ (yAt l i).kind = 2
  name : NameP (yAt l i).name
  new : ¬ 0 ≤ findN (l.take i) (yAt l i).kind (yAt l i).name
  no20 : hasP (yAt l i).props 20 = false
  no1 : hasP (yAt l i).props 1 = false
  props : checkP (if (yAt l i).kind = 1 then 2 else 1) (yAt l i).props = 0
theorem own_ok {l : List Sty} {i : Nat} : ownE l i = 0 ↔ OwnOk l i := by
  constructor
  · intro h
    unfold ownE at h
    by_cases h1 : (yAt l i).id < 1 ∨ (yAt l i).id > 1073741824
    · rw [if_pos h1] at h; omega
    rw [if_neg h1] at h
    by_cases h2 : 0 < (i : Int) ∧ (yAt l i).id = (yAt l (i - 1)).id
    · rw [if_pos h2] at h; omega
    rw [if_neg h2] at h
    by_cases h3 : 0 < (i : Int) ∧ (yAt l i).id < (yAt l (i - 1)).id
    · rw [if_pos h3] at h; omega
    rw [if_neg h3] at h
    by_cases h4 : (yAt l i).kind ≠ 1 ∧ (yAt l i).kind ≠ 2
    · rw [if_pos h4] at h; omega
    rw [if_neg h4] at h
    by_cases h5 : ¬ NameP (yAt l i).name
    · rw [if_pos h5] at h; omega
    rw [if_neg h5] at h
    by_cases h6 : 0 ≤ findN (l.take i) (yAt l i).kind (yAt l i).name
    · rw [if_pos h6] at h; omega
    rw [if_neg h6] at h
    by_cases h7 : hasP (yAt l i).props 20 = true ∨ hasP (yAt l i).props 1 = true
    · rw [if_pos h7] at h; omega
    rw [if_neg h7] at h
    exact ⟨by omega, by omega, fun hp => by omega, by omega, Classical.not_not.1 h5, h6, by simpa using fun e => h7 (.inl e), by simpa using fun e => h7 (.inr e), h⟩
  · intro h
    unfold ownE
    have a := h.lo; have b := h.hi; have c := h.inc; have d := h.kind
    rw [if_neg (by omega), if_neg (by omega), if_neg (by omega), if_neg (by omega), if_neg (fun e => e h.name), if_neg h.new, if_neg (by rw [h.no20, h.no1]; simp)]
    exact h.props
theorem own_inc {l : List Sty} (h : ∀ j, j < l.length → ownE l j = 0) : IncS l := by
  intro i j hij
  induction j with
  | zero => omega
  | succ j ih =>
    intro hj
    have h1 := (own_ok.1 (h (j + 1) hj)).inc (by omega)
    rw [Nat.add_sub_cancel] at h1
    rcases Nat.lt_or_ge i j with h2 | h2
    · exact Int.lt_trans (ih h2 (by omega)) h1
    · rw [show i = j by omega]; exact h1
theorem bad_link {l : List Sty} (h : ∀ j, j < l.length → ¬ badP l j) : LinkS l := fun i hi => by
  have := h i hi
  unfold badP at this
  by_cases hb : (yAt l i).base = 0
  · exact .inl hb
  · exact .inr (Classical.byContradiction fun e => this (.inl ⟨hb, e⟩))
theorem chain_any {l : List Sty} (hk : LinkS l) {id : Int} (h0 : 0 ≤ findS l id) : ∃ N, (∀ k, k < N → sq l id k ≠ 0 ∧ 0 ≤ findS l (sq l id k)) ∧ (sq l id N = 0 ∧ N ≤ l.length ∨ N = l.length + 1) := by
  by_cases hc : ∃ k, k ≤ l.length ∧ sq l id k = 0
  · obtain ⟨k, h1, h2⟩ := hc
    obtain ⟨n, h3, h4⟩ := chOk_of hk (.inr h0) h1 h2
    exact ⟨n, h4.on, .inl ⟨h4.off, h3⟩⟩
  · have hn : ∀ k, k ≤ l.length → sq l id k ≠ 0 := fun k h e => hc ⟨k, h, e⟩
    exact ⟨l.length + 1, fun k hk' => ⟨hn k (by omega), sq_found hk (.inr h0) k (hn k (by omega)) (fun j hj => hn j (by omega))⟩, .inr rfl⟩
theorem checkS_own {l : List Sty} (h0 : ¬ l.length > 128) {i : Nat} (hi : i < l.length) (hz : ∀ j, j < i → ownE l j = 0) (hne : ownE l i ≠ 0) : ownE l i = checkS l := by
  have := ownF_at hi hz hne
  unfold checkS
  rw [if_neg h0, this, if_pos hne]
theorem checkS_bad {l : List Sty} (h0 : ¬ l.length > 128) (h1 : ∀ j, j < l.length → ownE l j = 0) {i : Nat} (hi : i < l.length) (hb : badP l i) : 25 = checkS l := by
  unfold checkS
  rw [if_neg h0, ownF_zero.2 h1, if_neg (fun h => h rfl), if_pos ⟨i, hi, hb⟩]
theorem checkS_cyc {l : List Sty} (h0 : ¬ l.length > 128) (h1 : ∀ j, j < l.length → ownE l j = 0) (h2 : ∀ j, j < l.length → ¬ badP l j) {i : Nat} (hi : i < l.length) (hb : cycP l i) : 16 = checkS l := by
  unfold checkS
  rw [if_neg h0, ownF_zero.2 h1, if_neg (fun h => h rfl), if_neg (fun ⟨j, hj, h⟩ => h2 j hj h), if_pos ⟨i, hi, hb⟩]
theorem checkS_ok {l : List Sty} (h0 : ¬ l.length > 128) (h1 : ∀ j, j < l.length → ownE l j = 0) (h2 : ∀ j, j < l.length → ¬ badP l j) (h3 : ∀ j, j < l.length → ¬ cycP l j) : 0 = checkS l := by
  unfold checkS
  rw [if_neg h0, ownF_zero.2 h1, if_neg (fun h => h rfl), if_neg (fun ⟨j, hj, h⟩ => h2 j hj h), if_neg (fun ⟨j, hj, h⟩ => h3 j hj h)]
/-- a valid list of styles -/
structure Good (l : List Sty) : Prop where
  len : l.length ≤ 128
  own : ∀ j, j < l.length → OwnOk l j
  link : ∀ j, j < l.length → ¬ badP l j
  ends : ∀ j, j < l.length → ¬ cycP l j
theorem checkS_good {l : List Sty} : checkS l = 0 ↔ Good l := by
  constructor
  · intro h
    unfold checkS at h
    by_cases h0 : l.length > 128
    · rw [if_pos h0] at h; omega
    rw [if_neg h0] at h
    by_cases h1 : ownF l ≠ 0
    · rw [if_pos h1] at h; exact absurd h h1
    rw [if_neg h1] at h
    by_cases h2 : ∃ i, i < l.length ∧ badP l i
    · rw [if_pos h2] at h; omega
    rw [if_neg h2] at h
    by_cases h3 : ∃ i, i < l.length ∧ cycP l i
    · rw [if_pos h3] at h; omega
    exact ⟨by omega, fun j hj => own_ok.1 (ownF_zero.1 (Classical.not_not.1 h1) j hj), fun j hj e => h2 ⟨j, hj, e⟩, fun j hj e => h3 ⟨j, hj, e⟩⟩
  · intro h
    have := h.len
    exact (checkS_ok (by omega) (fun j hj => own_ok.2 (h.own j hj)) h.link h.ends).symm
theorem Good.inc {l : List Sty} (h : Good l) : IncS l := own_inc fun j hj => own_ok.2 (h.own j hj)
theorem Good.links {l : List Sty} (h : Good l) : LinkS l := bad_link h.link
theorem Good.props {l : List Sty} (h : Good l) {i : Nat} (hi : i < l.length) : GoodP (yAt l i).props := by
  have := (h.own i hi).props
  exact checkP_good (by split <;> omega) (by split <;> omega) this
theorem Good.chain {l : List Sty} (h : Good l) {id : Int} (h0 : id = 0 ∨ 0 ≤ findS l id) : ChOk l id (chN l id) ∧ chN l id ≤ l.length := by
  rcases h0 with rfl | h0
  · rw [chN_eq (sq_zero l) (Nat.zero_le _)]; exact ⟨sq_zero l, Nat.zero_le _⟩
  · obtain ⟨j, h1, _, h3, _⟩ := findS_pos h0
    have hn := h.ends j h1
    unfold cycP at hn
    rw [h3] at hn
    obtain ⟨k, hk⟩ := Classical.not_forall.1 hn
    obtain ⟨hk1, hk2⟩ := Classical.not_imp.1 hk
    obtain ⟨n, h4, h5⟩ := chOk_of h.links (.inr h0) hk1 (Classical.not_not.1 hk2)
    rw [chN_eq h5 h4]; exact ⟨h5, h4⟩
theorem Good.on {l : List Sty} (h : Good l) {id : Int} (h0 : id = 0 ∨ 0 ≤ findS l id) (k : Nat) (hk : k < chN l id) : (findS l (sq l id k)).toNat < l.length := by
  obtain ⟨_, h1⟩ := (h.chain h0).1.on k hk
  obtain ⟨j, h2, h3, _⟩ := findS_pos h1
  rw [h3]; exact h2
theorem Good.efQ {l : List Sty} (h : Good l) {id : Int} (h0 : id = 0 ∨ 0 ≤ findS l id) (k : Nat) (hk : k < chN l id) : GoodP (yF l (sq l id k)).props := h.props (h.on h0 k hk)
theorem Good.effP {l : List Sty} (h : Good l) {id : Int} (h0 : id = 0 ∨ 0 ≤ findS l id) : GoodP (effP l id) := (efQ_spec (h.efQ h0) _ (Nat.le_refl _)).1
theorem GoodP.len {ps : List (Int × Int)} (h : GoodP ps) : ps.length ≤ 45 := by
  have key : ∀ (ks ts : List Int), ks.Pairwise (· < ·) → (∀ k ∈ ks, k ∈ ts) → ts.Pairwise (· < ·) → ks.length ≤ ts.length := by
    intro ks ts
    induction ts generalizing ks with
    | nil => intro _ h _; cases ks with
      | nil => simp
      | cons k ks => exact absurd (h k (by simp)) (by simp)
    | cons t ts ih =>
      intro h1 h2 h3
      cases ks with
      | nil => simp
      | cons k ks =>
        obtain ⟨a1, a2⟩ := List.pairwise_cons.1 h1
        obtain ⟨b1, b2⟩ := List.pairwise_cons.1 h3
        simp only [List.length_cons]
        refine Nat.succ_le_succ (ih ks a2 (fun x hx => ?_) b2)
        rcases List.mem_cons.1 (h2 x (List.mem_cons_of_mem _ hx)) with e | e
        · exfalso
          have := a1 x hx
          rcases List.mem_cons.1 (h2 k (by simp)) with e2 | e2
          · omega
          · have := b1 k e2; omega
        · exact e
  have := key (keysP ps) (keysK tableK) h.1 (fun k hk => by
    obtain ⟨p, hp, rfl⟩ := List.mem_map.1 hk
    obtain ⟨i, hi, he⟩ := (inT_iff p.1).1 (h.2 p hp)
    rw [← he]
    unfold keysK
    refine List.mem_map.2 ⟨tableK[i], List.getElem_mem hi, ?_⟩
    unfold tK eAt; simp [hi]) tableK_inc
  rwa [keysP_len, keysK_len, tableK_len] at this
section
variable {P : Program} {env : Env} {H : Hp}
theorem ret_one1 {t T g T' : Nat} {r d : D} {e : Exit} (he : e = .ret ∨ e = .normal) (o1 : OneT P T) (h1 : env t = some (.v (.pointer (some ⟨g, 0, none⟩)))) (m1 : Blk.box g T' [d] ∈ H) (h : d = r) :
    RetA P [ResultVar.cell t T].toArray (fun r' H' => r' = r ∧ H' = []) e env H := ⟨he, [d], .one o1 h1 m1 .nil, [], List.nil_sublist _, h, rfl⟩
end
set_option maxHeartbeats 2000000 in
set_option maxRecDepth 100000 in
theorem SCheck_spec (l : List Sty) (hl : l.length ≤ 1000000) (hn : ∀ i, i < l.length → (yAt l i).name.size ≤ 1000000000) (hp : ∀ i, i < l.length → (yAt l i).props.length ≤ 1000000) : Fun Try.prog 15 [.sl 6 (encSs l)] (.v (.int .i64 (checkS l))) := by
  refine Fun.enter (n := 79) (rs := [.cell 2 29]) Try.func15 rfl Try.ntmps15 Try.results15 rfl (fun w F => ?_)
  have hk := encSs_len l
  refine TC.seq ?_; refine TC.region ?_
  refine TL.box rfl (.one rfl) rfl (fun g1 => ?_)
  refine TL.alloc Ty.zero29 rfl (fun g2 => ?_)
  refine TL.nil' ?_; refine TC.seq ?_; refine TC.seq ?_; refine TC.region ?_
  first | refine TL.run1 (pure_load1 Ty.one22 rfl) rfl ?_ | refine TL.run1 (pure_load1_own Ty.one22 rfl (by repeat (first | exact List.Mem.head _ | apply List.Mem.tail)) (by repeat (first | exact DropR.zero _ | apply DropR.succ))) rfl ?_
  first | refine TL.run1 (pure_len Ty.sl22 rfl) rfl ?_ | refine TL.run1 (pure_len_row Ty.sl22 rfl (by repeat (first | exact List.Mem.head _ | apply List.Mem.tail))) rfl ?_ | refine TL.run1 (pure_len_nil Ty.sl22 rfl) rfl ?_
  refine TL.run1 (pure_gtr rfl rfl) rfl ?_; refine TL.nil' ?_
  first | refine TC.condD rfl (fun hc12 => ?_) (fun hc12 => ?_) | refine TC.condN rfl (fun hc12 => ?_) (fun hc12 => ?_) | refine TC.cond rfl (fun hc12 => ?_) (fun hc12 => ?_)
  · try dsimp only at hc12
    refine TC.seq ?_; refine TC.region ?_; refine TL.store rfl rfl (.one (by first | rfl | assumption)) Try.sizeOf29 rfl (by repeat (first | exact UpdR.here _ | apply UpdR.there)) (by repeat (first | exact PutR.nil _ | apply PutR.here | apply PutR.skip)) ?_; refine TL.nil' ?_; refine TC.ret ?_; refine then_ret ?_
    exact ret_one1 (.inl rfl) Ty.one29 rfl (by repeat (first | exact List.Mem.head _ | apply List.Mem.tail)) (by unfold checkS; rw [if_pos (by omega)])
  · try dsimp only at hc12
    have h0 : ¬ l.length > 128 := by omega
    refine TC.skip' ?_; refine TC.seq ?_; refine TC.seq ?_; refine TC.region ?_
    first | refine TL.run1 (pure_load1 Ty.one22 rfl) rfl ?_ | refine TL.run1 (pure_load1_own Ty.one22 rfl (by repeat (first | exact List.Mem.head _ | apply List.Mem.tail)) (by repeat (first | exact DropR.zero _ | apply DropR.succ))) rfl ?_
    first | refine TL.run1 (pure_len Ty.sl22 rfl) rfl ?_ | refine TL.run1 (pure_len_row Ty.sl22 rfl (by repeat (first | exact List.Mem.head _ | apply List.Mem.tail))) rfl ?_ | refine TL.run1 (pure_len_nil Ty.sl22 rfl) rfl ?_
    refine TL.run1 (pure_move rfl) rfl ?_; refine TL.nil' ?_; refine TC.block ?_; refine TC.loopX (X := Nat) (fun i => [(1, .v (.pointer (some ⟨g1, 0, none⟩))), (2, .v (.pointer (some ⟨g2, 0, none⟩))), (14, .v (.int .i64 (encSs l).length)), (15, .v (.int .i64 i))]) (fun i => [.box g2 29 [.v (.int .i64 0)], .box g1 22 [.sl 6 (encSs l)]]) (fun i => (i ≤ l.length) ∧ (∀ j, j < i → ownE l j = 0)) (fun i => l.length - i) (0) ⟨by skip; repeat (first | exact Agree.nil | refine Agree.cons rfl ?_), by skip; repeat (first | exact List.nil_sublist _ | exact List.Sublist.refl _ | apply List.Sublist.cons_cons | apply List.Sublist.cons)⟩ ?_ ?_
    · skip
      exact ⟨Nat.zero_le _, fun j h => by omega⟩
    intro i
    rintro ⟨h1, h2⟩
    show TC _ _ _ (Env.of [(1, .v (.pointer (some ⟨g1, 0, none⟩))), (2, .v (.pointer (some ⟨g2, 0, none⟩))), (14, .v (.int .i64 (encSs l).length)), (15, .v (.int .i64 i))]) [.box g2 29 [.v (.int .i64 0)], .box g1 22 [.sl 6 (encSs l)]]
    refine TC.seq ?_; refine TC.region ?_; refine TL.run1 (pure_lss rfl rfl) rfl ?_; refine TL.nil' ?_; refine TC.seq ?_
    first | refine TC.condD rfl (fun hc16 => ?_) (fun hc16 => ?_) | refine TC.condN rfl (fun hc16 => ?_) (fun hc16 => ?_) | refine TC.cond rfl (fun hc16 => ?_) (fun hc16 => ?_)
    · try dsimp only at hc16
      refine TC.skip' ?_; refine TC.seq ?_; refine TC.block ?_; refine TC.seq ?_; refine TC.region ?_; refine TL.run1 (pure_move rfl) rfl ?_; refine TL.run1 (pure_assign rfl) rfl ?_; refine TL.nil' ?_; refine TC.seq ?_; refine TC.region ?_
      first | refine TL.run1 (pure_load1 Ty.one22 rfl) rfl ?_ | refine TL.run1 (pure_load1_own Ty.one22 rfl (by repeat (first | exact List.Mem.head _ | apply List.Mem.tail)) (by repeat (first | exact DropR.zero _ | apply DropR.succ))) rfl ?_
      refine TL.run1 (pure_move rfl) rfl ?_; refine TL.run1 (pure_call (own_spec l i (by omega) hl (hn i (by omega)) (hp i (by omega))) (.cons rfl (.cons rfl .nil)) Try.call44) rfl ?_; refine TL.run1 (pure_assign rfl) rfl ?_; refine TL.nil' ?_; refine TC.seq ?_; refine TC.region ?_; refine TL.run1 (pure_move rfl) rfl ?_; refine TL.run1 (pure_neq rfl rfl) rfl ?_; refine TL.nil' ?_
      first | refine TC.condD rfl (fun hc22 => ?_) (fun hc22 => ?_) | refine TC.condN rfl (fun hc22 => ?_) (fun hc22 => ?_) | refine TC.cond rfl (fun hc22 => ?_) (fun hc22 => ?_)
      · try dsimp only at hc22
        refine TC.seq ?_; refine TC.region ?_; refine TL.run1 (pure_move rfl) rfl ?_; refine TL.store rfl rfl (.one (by first | rfl | assumption)) Try.sizeOf29 rfl (by repeat (first | exact UpdR.here _ | apply UpdR.there)) (by repeat (first | exact PutR.nil _ | apply PutR.here | apply PutR.skip)) ?_; refine TL.nil' ?_; refine TC.ret ?_; refine block_ret ?_; refine then_ret ?_; refine loop_ret ?_; refine block_ret ?_; refine then_ret ?_
        exact ret_one1 (.inl rfl) Ty.one29 rfl (by repeat (first | exact List.Mem.head _ | apply List.Mem.tail)) (by rw [checkS_own h0 (by omega) h2 hc22])
      · try dsimp only at hc22
        refine TC.skip ?_; refine block_normal ?_; refine then_normal ?_; refine TC.region ?_; refine TL.run1 (pure_add rfl rfl (mkI64 (by omega) (by omega))) rfl ?_; refine TL.run1 (pure_move rfl) rfl ?_; refine TL.nil ?_
        refine loop_next (i + 1) ⟨by ((try dsimp only); rw [show (((i + 1 : Nat)) : Int) = (i : Int) + 1 by omega]; repeat (first | exact Agree.nil | refine Agree.cons rfl ?_)), by repeat (first | exact List.nil_sublist _ | exact List.Sublist.refl _ | apply List.Sublist.cons_cons | apply List.Sublist.cons)⟩ ⟨by omega, fun j h => by rcases Nat.lt_or_eq_of_le (Nat.le_of_lt_succ h) with h | h; exact h2 j h; subst h; exact Classical.not_not.1 hc22⟩ (by omega)
    · try dsimp only at hc16
      have hown : ∀ j, j < l.length → ownE l j = 0 := fun j hj => h2 j (by omega)
      have hinc := own_inc hown
      refine TC.exit ?_; refine then_exit ?_; refine loop_exit ?_; refine block_here ?_; refine then_normal ?_; refine TC.seq ?_; refine TC.seq ?_; refine TC.region ?_
      first | refine TL.run1 (pure_load1 Ty.one22 rfl) rfl ?_ | refine TL.run1 (pure_load1_own Ty.one22 rfl (by repeat (first | exact List.Mem.head _ | apply List.Mem.tail)) (by repeat (first | exact DropR.zero _ | apply DropR.succ))) rfl ?_
      first | refine TL.run1 (pure_len Ty.sl22 rfl) rfl ?_ | refine TL.run1 (pure_len_row Ty.sl22 rfl (by repeat (first | exact List.Mem.head _ | apply List.Mem.tail))) rfl ?_ | refine TL.run1 (pure_len_nil Ty.sl22 rfl) rfl ?_
      refine TL.run1 (pure_move rfl) rfl ?_; refine TL.nil' ?_; refine TC.block ?_; refine TC.loopX (X := Nat) (fun i => [(1, .v (.pointer (some ⟨g1, 0, none⟩))), (2, .v (.pointer (some ⟨g2, 0, none⟩))), (25, .sl 6 (encSs l)), (26, .v (.int .i64 (encSs l).length)), (27, .v (.int .i64 i))]) (fun i => [.box g2 29 [.v (.int .i64 0)], .box g1 22 [.sl 6 (encSs l)]]) (fun i => (i ≤ l.length) ∧ (∀ j, j < i → ¬ badP l j)) (fun i => l.length - i) (0) ⟨by skip; repeat (first | exact Agree.nil | refine Agree.cons rfl ?_), by skip; repeat (first | exact List.nil_sublist _ | exact List.Sublist.refl _ | apply List.Sublist.cons_cons | apply List.Sublist.cons)⟩ ?_ ?_
      · skip
        exact ⟨Nat.zero_le _, fun j h => by omega⟩
      intro i
      rintro ⟨h1, h3⟩
      show TC _ _ _ (Env.of [(1, .v (.pointer (some ⟨g1, 0, none⟩))), (2, .v (.pointer (some ⟨g2, 0, none⟩))), (25, .sl 6 (encSs l)), (26, .v (.int .i64 (encSs l).length)), (27, .v (.int .i64 i))]) [.box g2 29 [.v (.int .i64 0)], .box g1 22 [.sl 6 (encSs l)]]
      refine TC.seq ?_; refine TC.region ?_; refine TL.run1 (pure_lss rfl rfl) rfl ?_; refine TL.nil' ?_; refine TC.seq ?_
      first | refine TC.condD rfl (fun hc28 => ?_) (fun hc28 => ?_) | refine TC.condN rfl (fun hc28 => ?_) (fun hc28 => ?_) | refine TC.cond rfl (fun hc28 => ?_) (fun hc28 => ?_)
      · try dsimp only at hc28
        refine TC.skip' ?_; refine TC.seq ?_; refine TC.block ?_; refine TC.seq ?_
        have hrow := encSs_get l i (by omega)
        refine TC.region ?_; refine TL.run1 (pure_indexAddr Ty.sl22 rfl rfl (by omega) hrow (List.cons_ne_nil _ _)) rfl ?_
        first | refine TL.run1 (pure_load Ty.agg28 rfl (.succ (.succ (.succ (.succ (.succ (.succ (.zero _)))))))) rfl ?_ | refine TL.run1 (pure_load_own Ty.agg28 rfl (by repeat (first | exact List.Mem.head _ | apply List.Mem.tail)) (by repeat (first | exact DropR.zero _ | apply DropR.succ)) (.succ (.succ (.succ (.succ (.succ (.succ (.zero _)))))))) rfl ?_
        refine TL.alloc Ty.zero28 rfl (fun g6 => ?_)
        refine TL.store rfl rfl (.agg _) Try.sizeOf28 rfl (by repeat (first | exact UpdR.here _ | apply UpdR.there)) (by repeat (first | exact PutR.nil _ | apply PutR.here | apply PutR.skip)) ?_; refine TL.nil' ?_; refine TC.regionCut [31, 32, 33, 34, 35, 36, 37, 38, 39, 40, 41, 42, 43, 44, 45, 46, 47, 48, 49, 50, 51, 52, 53, 54, 55, 56, 57, 58, 59] 59 (badP l i) ?_ ?_
        · skip
          first | refine TL.run1 (pure_fieldAddr Ty.f28_3 rfl (.succ (.succ (.succ (.zero _)))) (List.cons_ne_nil _ _)) rfl ?_ | refine TL.run1 (pure_fieldAddr_own Ty.f28_3 rfl) rfl ?_
          first | refine TL.run1 (pure_load1 Ty.one3 rfl) rfl ?_ | refine TL.run1 (pure_load1_own Ty.one3 rfl (by repeat (first | exact List.Mem.head _ | apply List.Mem.tail)) (by repeat (first | exact DropR.zero _ | apply DropR.succ))) rfl ?_
          refine TL.run1 (pure_neq rfl rfl) rfl ?_; refine TL.run1 (pure_move rfl) rfl ?_
          first | refine TL.splitP 34 rfl (fun hg34 => ?_) (fun hg34 => ?_) | refine TL.split 34 rfl (fun hg34 => ?_) (fun hg34 => ?_)
          · try dsimp only at hg34
            first | refine TL.runG rfl rfl (pure_load1 Ty.one22 rfl) rfl ?_ | refine TL.runG rfl rfl (pure_load1_own Ty.one22 rfl (by repeat (first | exact List.Mem.head _ | apply List.Mem.tail)) (by repeat (first | exact DropR.zero _ | apply DropR.succ))) rfl ?_
            first | refine TL.runG rfl rfl (pure_fieldAddr Ty.f28_1 rfl (.succ (.zero _)) (List.cons_ne_nil _ _)) rfl ?_ | refine TL.runG rfl rfl (pure_fieldAddr_own Ty.f28_1 rfl) rfl ?_
            first | refine TL.runG rfl rfl (pure_load1 Ty.one3 rfl) rfl ?_ | refine TL.runG rfl rfl (pure_load1_own Ty.one3 rfl (by repeat (first | exact List.Mem.head _ | apply List.Mem.tail)) (by repeat (first | exact DropR.zero _ | apply DropR.succ))) rfl ?_
            first | refine TL.runG rfl rfl (pure_fieldAddr Ty.f28_3 rfl (.succ (.succ (.succ (.zero _)))) (List.cons_ne_nil _ _)) rfl ?_ | refine TL.runG rfl rfl (pure_fieldAddr_own Ty.f28_3 rfl) rfl ?_
            first | refine TL.runG rfl rfl (pure_load1 Ty.one3 rfl) rfl ?_ | refine TL.runG rfl rfl (pure_load1_own Ty.one3 rfl (by repeat (first | exact List.Mem.head _ | apply List.Mem.tail)) (by repeat (first | exact DropR.zero _ | apply DropR.succ))) rfl ?_
            first | refine TL.runG rfl rfl (pure_call (is_spec l (yAt l i).kind (yAt l i).base hl) (.cons rfl (.cons rfl (.cons rfl .nil))) Try.call45) rfl ?_ | refine TL.runG rfl rfl (pure_call (is_spec l 1 (yAt l i).next hl) (.cons rfl (.cons rfl (.cons rfl .nil))) Try.call45) rfl ?_
            refine TL.runG rfl rfl (pure_not rfl) rfl ?_; refine TL.run1 (pure_pick_true rfl rfl) rfl ?_; refine TL.run1 (pure_move rfl) rfl ?_
            first | refine TL.splitP 43 rfl (fun hg43 => ?_) (fun hg43 => ?_) | refine TL.split 43 rfl (fun hg43 => ?_) (fun hg43 => ?_)
            · try dsimp only at hg43
              refine TL.passG rfl rfl rfl rfl ?_; refine TL.passG rfl rfl rfl rfl ?_; refine TL.passG rfl rfl rfl rfl ?_; refine TL.passG rfl rfl rfl rfl ?_; refine TL.passG rfl rfl rfl rfl ?_; refine TL.passG rfl rfl rfl rfl ?_; refine TL.passG rfl rfl rfl rfl ?_; refine TL.passG rfl rfl rfl rfl ?_; refine TL.passG rfl rfl rfl rfl ?_; refine TL.passG rfl rfl rfl rfl ?_; refine TL.passG rfl rfl rfl rfl ?_; refine TL.passG rfl rfl rfl rfl ?_; refine TL.passG rfl rfl rfl rfl ?_; refine TL.passG rfl rfl rfl rfl ?_; refine TL.passG rfl rfl rfl rfl ?_; refine TL.run1 (pure_pick_true rfl rfl) rfl ?_; refine TL.cutEnd (by repeat (first | exact Same.refl _ _ | refine Same.put rfl ?_)) rfl ?_
              first | (unfold badP; simp_all; done) | (unfold badP; grind)
            · try dsimp only at hg43
              first | refine TL.runG rfl rfl (pure_fieldAddr Ty.f28_4 rfl (.succ (.succ (.succ (.succ (.zero _))))) (List.cons_ne_nil _ _)) rfl ?_ | refine TL.runG rfl rfl (pure_fieldAddr_own Ty.f28_4 rfl) rfl ?_
              first | refine TL.runG rfl rfl (pure_load1 Ty.one3 rfl) rfl ?_ | refine TL.runG rfl rfl (pure_load1_own Ty.one3 rfl (by repeat (first | exact List.Mem.head _ | apply List.Mem.tail)) (by repeat (first | exact DropR.zero _ | apply DropR.succ))) rfl ?_
              refine TL.runG rfl rfl (pure_neq rfl rfl) rfl ?_; refine TL.runG rfl rfl (pure_move rfl) rfl ?_
              first | refine TL.splitP 47 rfl (fun hg47 => ?_) (fun hg47 => ?_) | refine TL.split 47 rfl (fun hg47 => ?_) (fun hg47 => ?_)
              · try dsimp only at hg47
                first | refine TL.runG rfl rfl (pure_fieldAddr Ty.f28_1 rfl (.succ (.zero _)) (List.cons_ne_nil _ _)) rfl ?_ | refine TL.runG rfl rfl (pure_fieldAddr_own Ty.f28_1 rfl) rfl ?_
                first | refine TL.runG rfl rfl (pure_load1 Ty.one3 rfl) rfl ?_ | refine TL.runG rfl rfl (pure_load1_own Ty.one3 rfl (by repeat (first | exact List.Mem.head _ | apply List.Mem.tail)) (by repeat (first | exact DropR.zero _ | apply DropR.succ))) rfl ?_
                refine TL.runG rfl rfl (pure_eql rfl rfl) rfl ?_; refine TL.runG rfl rfl (pure_move rfl) rfl ?_
                first | refine TL.splitP 51 rfl (fun hg51 => ?_) (fun hg51 => ?_) | refine TL.split 51 rfl (fun hg51 => ?_) (fun hg51 => ?_)
                · try dsimp only at hg51
                  refine TL.passG rfl rfl rfl rfl ?_; refine TL.passG rfl rfl rfl rfl ?_; refine TL.passG rfl rfl rfl rfl ?_; refine TL.passG rfl rfl rfl rfl ?_; refine TL.passG rfl rfl rfl rfl ?_; refine TL.runG rfl rfl (pure_pick_true rfl rfl) rfl ?_; refine TL.runG rfl rfl (pure_pick_true rfl rfl) rfl ?_; refine TL.run1 (pure_pick_false rfl rfl) rfl ?_; refine TL.cutEnd (by repeat (first | exact Same.refl _ _ | refine Same.put rfl ?_)) rfl ?_
                  first | (unfold badP; simp_all; done) | (unfold badP; grind)
                · try dsimp only at hg51
                  first | refine TL.runG rfl rfl (pure_load1 Ty.one22 rfl) rfl ?_ | refine TL.runG rfl rfl (pure_load1_own Ty.one22 rfl (by repeat (first | exact List.Mem.head _ | apply List.Mem.tail)) (by repeat (first | exact DropR.zero _ | apply DropR.succ))) rfl ?_
                  first | refine TL.runG rfl rfl (pure_fieldAddr Ty.f28_4 rfl (.succ (.succ (.succ (.succ (.zero _))))) (List.cons_ne_nil _ _)) rfl ?_ | refine TL.runG rfl rfl (pure_fieldAddr_own Ty.f28_4 rfl) rfl ?_
                  first | refine TL.runG rfl rfl (pure_load1 Ty.one3 rfl) rfl ?_ | refine TL.runG rfl rfl (pure_load1_own Ty.one3 rfl (by repeat (first | exact List.Mem.head _ | apply List.Mem.tail)) (by repeat (first | exact DropR.zero _ | apply DropR.succ))) rfl ?_
                  first | refine TL.runG rfl rfl (pure_call (is_spec l (yAt l i).kind (yAt l i).base hl) (.cons rfl (.cons rfl (.cons rfl .nil))) Try.call45) rfl ?_ | refine TL.runG rfl rfl (pure_call (is_spec l 1 (yAt l i).next hl) (.cons rfl (.cons rfl (.cons rfl .nil))) Try.call45) rfl ?_
                  refine TL.runG rfl rfl (pure_not rfl) rfl ?_; refine TL.runG rfl rfl (pure_pick_false rfl rfl) rfl ?_; refine TL.runG rfl rfl (pure_pick_true rfl rfl) rfl ?_; refine TL.run1 (pure_pick_false rfl rfl) rfl ?_; refine TL.cutEnd (by repeat (first | exact Same.refl _ _ | refine Same.put rfl ?_)) rfl ?_
                  first | (unfold badP; simp_all; done) | (unfold badP; grind)
              · try dsimp only at hg47
                refine TL.passG rfl rfl rfl rfl ?_; refine TL.passG rfl rfl rfl rfl ?_; refine TL.passG rfl rfl rfl rfl ?_; refine TL.passG rfl rfl rfl rfl ?_; refine TL.passG rfl rfl rfl rfl ?_; refine TL.passG rfl rfl rfl rfl ?_; refine TL.passG rfl rfl rfl rfl ?_; refine TL.passG rfl rfl rfl rfl ?_; refine TL.passG rfl rfl rfl rfl ?_; refine TL.passG rfl rfl rfl rfl ?_; refine TL.runG rfl rfl (pure_pick_false rfl rfl) rfl ?_; refine TL.run1 (pure_pick_false rfl rfl) rfl ?_; refine TL.cutEnd (by repeat (first | exact Same.refl _ _ | refine Same.put rfl ?_)) rfl ?_
                first | (unfold badP; simp_all; done) | (unfold badP; grind)
          · try dsimp only at hg34
            refine TL.passG rfl rfl rfl rfl ?_; refine TL.passG rfl rfl rfl rfl ?_; refine TL.passG rfl rfl rfl rfl ?_; refine TL.passG rfl rfl rfl rfl ?_; refine TL.passG rfl rfl rfl rfl ?_; refine TL.passG rfl rfl rfl rfl ?_; refine TL.passG rfl rfl rfl rfl ?_; refine TL.run1 (pure_pick_false rfl rfl) rfl ?_; refine TL.run1 (pure_move rfl) rfl ?_
            first | refine TL.runG rfl rfl (pure_fieldAddr Ty.f28_4 rfl (.succ (.succ (.succ (.succ (.zero _))))) (List.cons_ne_nil _ _)) rfl ?_ | refine TL.runG rfl rfl (pure_fieldAddr_own Ty.f28_4 rfl) rfl ?_
            first | refine TL.runG rfl rfl (pure_load1 Ty.one3 rfl) rfl ?_ | refine TL.runG rfl rfl (pure_load1_own Ty.one3 rfl (by repeat (first | exact List.Mem.head _ | apply List.Mem.tail)) (by repeat (first | exact DropR.zero _ | apply DropR.succ))) rfl ?_
            refine TL.runG rfl rfl (pure_neq rfl rfl) rfl ?_; refine TL.runG rfl rfl (pure_move rfl) rfl ?_
            first | refine TL.splitP 47 rfl (fun hg47 => ?_) (fun hg47 => ?_) | refine TL.split 47 rfl (fun hg47 => ?_) (fun hg47 => ?_)
            · try dsimp only at hg47
              first | refine TL.runG rfl rfl (pure_fieldAddr Ty.f28_1 rfl (.succ (.zero _)) (List.cons_ne_nil _ _)) rfl ?_ | refine TL.runG rfl rfl (pure_fieldAddr_own Ty.f28_1 rfl) rfl ?_
              first | refine TL.runG rfl rfl (pure_load1 Ty.one3 rfl) rfl ?_ | refine TL.runG rfl rfl (pure_load1_own Ty.one3 rfl (by repeat (first | exact List.Mem.head _ | apply List.Mem.tail)) (by repeat (first | exact DropR.zero _ | apply DropR.succ))) rfl ?_
              refine TL.runG rfl rfl (pure_eql rfl rfl) rfl ?_; refine TL.runG rfl rfl (pure_move rfl) rfl ?_
              first | refine TL.splitP 51 rfl (fun hg51 => ?_) (fun hg51 => ?_) | refine TL.split 51 rfl (fun hg51 => ?_) (fun hg51 => ?_)
              · try dsimp only at hg51
                refine TL.passG rfl rfl rfl rfl ?_; refine TL.passG rfl rfl rfl rfl ?_; refine TL.passG rfl rfl rfl rfl ?_; refine TL.passG rfl rfl rfl rfl ?_; refine TL.passG rfl rfl rfl rfl ?_; refine TL.runG rfl rfl (pure_pick_true rfl rfl) rfl ?_; refine TL.runG rfl rfl (pure_pick_true rfl rfl) rfl ?_; refine TL.run1 (pure_pick_false rfl rfl) rfl ?_; refine TL.cutEnd (by repeat (first | exact Same.refl _ _ | refine Same.put rfl ?_)) rfl ?_
                first | (unfold badP; simp_all; done) | (unfold badP; grind)
              · try dsimp only at hg51
                first | refine TL.runG rfl rfl (pure_load1 Ty.one22 rfl) rfl ?_ | refine TL.runG rfl rfl (pure_load1_own Ty.one22 rfl (by repeat (first | exact List.Mem.head _ | apply List.Mem.tail)) (by repeat (first | exact DropR.zero _ | apply DropR.succ))) rfl ?_
                first | refine TL.runG rfl rfl (pure_fieldAddr Ty.f28_4 rfl (.succ (.succ (.succ (.succ (.zero _))))) (List.cons_ne_nil _ _)) rfl ?_ | refine TL.runG rfl rfl (pure_fieldAddr_own Ty.f28_4 rfl) rfl ?_
                first | refine TL.runG rfl rfl (pure_load1 Ty.one3 rfl) rfl ?_ | refine TL.runG rfl rfl (pure_load1_own Ty.one3 rfl (by repeat (first | exact List.Mem.head _ | apply List.Mem.tail)) (by repeat (first | exact DropR.zero _ | apply DropR.succ))) rfl ?_
                first | refine TL.runG rfl rfl (pure_call (is_spec l (yAt l i).kind (yAt l i).base hl) (.cons rfl (.cons rfl (.cons rfl .nil))) Try.call45) rfl ?_ | refine TL.runG rfl rfl (pure_call (is_spec l 1 (yAt l i).next hl) (.cons rfl (.cons rfl (.cons rfl .nil))) Try.call45) rfl ?_
                refine TL.runG rfl rfl (pure_not rfl) rfl ?_; refine TL.runG rfl rfl (pure_pick_false rfl rfl) rfl ?_; refine TL.runG rfl rfl (pure_pick_true rfl rfl) rfl ?_; refine TL.run1 (pure_pick_false rfl rfl) rfl ?_; refine TL.cutEnd (by repeat (first | exact Same.refl _ _ | refine Same.put rfl ?_)) rfl ?_
                first | (unfold badP; simp_all; done) | (unfold badP; grind)
            · try dsimp only at hg47
              refine TL.passG rfl rfl rfl rfl ?_; refine TL.passG rfl rfl rfl rfl ?_; refine TL.passG rfl rfl rfl rfl ?_; refine TL.passG rfl rfl rfl rfl ?_; refine TL.passG rfl rfl rfl rfl ?_; refine TL.passG rfl rfl rfl rfl ?_; refine TL.passG rfl rfl rfl rfl ?_; refine TL.passG rfl rfl rfl rfl ?_; refine TL.passG rfl rfl rfl rfl ?_; refine TL.passG rfl rfl rfl rfl ?_; refine TL.runG rfl rfl (pure_pick_false rfl rfl) rfl ?_; refine TL.run1 (pure_pick_false rfl rfl) rfl ?_; refine TL.cutEnd (by repeat (first | exact Same.refl _ _ | refine Same.put rfl ?_)) rfl ?_
              first | (unfold badP; simp_all; done) | (unfold badP; grind)
        first | refine TC.condD rfl (fun hc59 => ?_) (fun hc59 => ?_) | refine TC.condN rfl (fun hc59 => ?_) (fun hc59 => ?_) | refine TC.cond rfl (fun hc59 => ?_) (fun hc59 => ?_)
        · try dsimp only at hc59
          refine TC.seq ?_; refine TC.region ?_; refine TL.store rfl rfl (.one (by first | rfl | assumption)) Try.sizeOf29 rfl (by repeat (first | exact UpdR.here _ | apply UpdR.there)) (by repeat (first | exact PutR.nil _ | apply PutR.here | apply PutR.skip)) ?_; refine TL.nil' ?_; refine TC.ret ?_; refine block_ret ?_; refine then_ret ?_; refine loop_ret ?_; refine block_ret ?_; refine then_ret ?_
          exact ret_one1 (.inl rfl) Ty.one29 rfl (by repeat (first | exact List.Mem.head _ | apply List.Mem.tail)) (by rw [← checkS_bad h0 hown (by omega) hc59])
        · try dsimp only at hc59
          refine TC.skip ?_; refine block_normal ?_; refine then_normal ?_; refine TC.region ?_; refine TL.run1 (pure_add rfl rfl (mkI64 (by omega) (by omega))) rfl ?_; refine TL.run1 (pure_move rfl) rfl ?_; refine TL.nil ?_
          refine loop_next (i + 1) ⟨by ((try dsimp only); rw [show (((i + 1 : Nat)) : Int) = (i : Int) + 1 by omega]; repeat (first | exact Agree.nil | refine Agree.cons rfl ?_)), by repeat (first | exact List.nil_sublist _ | exact List.Sublist.refl _ | apply List.Sublist.cons_cons | apply List.Sublist.cons)⟩ ⟨by omega, fun j h => by rcases Nat.lt_or_eq_of_le (Nat.le_of_lt_succ h) with h | h; exact h3 j h; subst h; exact hc59⟩ (by omega)
      · try dsimp only at hc28
        have hbad : ∀ j, j < l.length → ¬ badP l j := fun j hj => h3 j (by omega)
        have hlk := bad_link hbad
        refine TC.exit ?_; refine then_exit ?_; refine loop_exit ?_; refine block_here ?_; refine then_normal ?_; refine TC.seq ?_; refine TC.seq ?_; refine TC.region ?_
        first | refine TL.run1 (pure_load1 Ty.one22 rfl) rfl ?_ | refine TL.run1 (pure_load1_own Ty.one22 rfl (by repeat (first | exact List.Mem.head _ | apply List.Mem.tail)) (by repeat (first | exact DropR.zero _ | apply DropR.succ))) rfl ?_
        first | refine TL.run1 (pure_len Ty.sl22 rfl) rfl ?_ | refine TL.run1 (pure_len_row Ty.sl22 rfl (by repeat (first | exact List.Mem.head _ | apply List.Mem.tail))) rfl ?_ | refine TL.run1 (pure_len_nil Ty.sl22 rfl) rfl ?_
        refine TL.run1 (pure_move rfl) rfl ?_; refine TL.nil' ?_; refine TC.block ?_; refine TC.loopX (X := Nat) (fun i => [(1, .v (.pointer (some ⟨g1, 0, none⟩))), (2, .v (.pointer (some ⟨g2, 0, none⟩))), (61, .sl 6 (encSs l)), (62, .v (.int .i64 (encSs l).length)), (63, .v (.int .i64 i))]) (fun i => [.box g2 29 [.v (.int .i64 0)], .box g1 22 [.sl 6 (encSs l)]]) (fun i => (i ≤ l.length) ∧ (∀ j, j < i → ¬ cycP l j)) (fun i => l.length - i) (0) ⟨by skip; repeat (first | exact Agree.nil | refine Agree.cons rfl ?_), by skip; repeat (first | exact List.nil_sublist _ | exact List.Sublist.refl _ | apply List.Sublist.cons_cons | apply List.Sublist.cons)⟩ ?_ ?_
        · skip
          exact ⟨Nat.zero_le _, fun j h => by omega⟩
        intro i
        rintro ⟨h1, h4⟩
        show TC _ _ _ (Env.of [(1, .v (.pointer (some ⟨g1, 0, none⟩))), (2, .v (.pointer (some ⟨g2, 0, none⟩))), (61, .sl 6 (encSs l)), (62, .v (.int .i64 (encSs l).length)), (63, .v (.int .i64 i))]) [.box g2 29 [.v (.int .i64 0)], .box g1 22 [.sl 6 (encSs l)]]
        refine TC.seq ?_; refine TC.region ?_; refine TL.run1 (pure_lss rfl rfl) rfl ?_; refine TL.nil' ?_; refine TC.seq ?_
        first | refine TC.condD rfl (fun hc64 => ?_) (fun hc64 => ?_) | refine TC.condN rfl (fun hc64 => ?_) (fun hc64 => ?_) | refine TC.cond rfl (fun hc64 => ?_) (fun hc64 => ?_)
        · try dsimp only at hc64
          refine TC.skip' ?_; refine TC.seq ?_; refine TC.block ?_; refine TC.seq ?_
          have hil : i < l.length := by omega
          have hrow := encSs_get l i hil
          have hfi := hinc.find hil
          obtain ⟨N, hN, hend⟩ := chain_any hlk (id := (yAt l i).id) (by omega)
          refine TC.region ?_; refine TL.run1 (pure_indexAddr Ty.sl22 rfl rfl (by omega) hrow (List.cons_ne_nil _ _)) rfl ?_
          first | refine TL.run1 (pure_load Ty.agg28 rfl (.succ (.succ (.succ (.succ (.succ (.succ (.zero _)))))))) rfl ?_ | refine TL.run1 (pure_load_own Ty.agg28 rfl (by repeat (first | exact List.Mem.head _ | apply List.Mem.tail)) (by repeat (first | exact DropR.zero _ | apply DropR.succ)) (.succ (.succ (.succ (.succ (.succ (.succ (.zero _)))))))) rfl ?_
          refine TL.alloc Ty.zero28 rfl (fun g8 => ?_)
          refine TL.store rfl rfl (.agg _) Try.sizeOf28 rfl (by repeat (first | exact UpdR.here _ | apply UpdR.there)) (by repeat (first | exact PutR.nil _ | apply PutR.here | apply PutR.skip)) ?_; refine TL.nil' ?_; refine TC.seq ?_; refine TC.region ?_
          refine TL.alloc Ty.zero3 rfl (fun g9 => ?_)
          refine TL.store rfl rfl (.one (by first | rfl | assumption)) Try.sizeOf3 rfl (by repeat (first | exact UpdR.here _ | apply UpdR.there)) (by repeat (first | exact PutR.nil _ | apply PutR.here | apply PutR.skip)) ?_; refine TL.nil' ?_; refine TC.seq ?_; refine TC.region ?_
          first | refine TL.run1 (pure_load1 Ty.one22 rfl) rfl ?_ | refine TL.run1 (pure_load1_own Ty.one22 rfl (by repeat (first | exact List.Mem.head _ | apply List.Mem.tail)) (by repeat (first | exact DropR.zero _ | apply DropR.succ))) rfl ?_
          first | refine TL.run1 (pure_fieldAddr Ty.f28_0 rfl (.zero _) (List.cons_ne_nil _ _)) rfl ?_ | refine TL.run1 (pure_fieldAddr_own Ty.f28_0 rfl) rfl ?_
          first | refine TL.run1 (pure_load1 Ty.one3 rfl) rfl ?_ | refine TL.run1 (pure_load1_own Ty.one3 rfl (by repeat (first | exact List.Mem.head _ | apply List.Mem.tail)) (by repeat (first | exact DropR.zero _ | apply DropR.succ))) rfl ?_
          refine TL.callD (SplitR.none _) (chain_spec l (yAt l i).id) (.cons rfl (.cons rfl .nil)) Try.call46 (fun t ht => by cases ht; exact of_decide_eq_true rfl) ?_
          rintro r2 H2 ⟨g, rfl, rfl⟩
          simp only [List.cons_append, List.nil_append]
          refine TL.nil' ?_; refine TC.block ?_; refine TC.rangeFuncC (pre := [.at_ [.sl 6 (encSs l)]]) (xs := (chD l (yAt l i).id N)) rfl rfl Try.call70 (chain_seq l (yAt l i).id N g hinc hl hN) (fun k H => k ≤ l.length ∧ List.Sublist [Blk.box g9 3 [.v (.int .i64 k)], .box g8 28 [.v (.int .i64 (yAt l i).id), .v (.int .i64 (yAt l i).kind), .v (.string (yAt l i).name), .v (.int .i64 (yAt l i).base), .v (.int .i64 (yAt l i).next), .sl 2 (encP (yAt l i).props)], .box g2 29 [.v (.int .i64 0)], .box g1 22 [.sl 6 (encSs l)]] H) (fun e H => e = .ret ∧ cycP l i ∧ List.Sublist [Blk.box g9 3 [.v (.int .i64 (l.length + 1 : Nat))], .box g8 28 [.v (.int .i64 (yAt l i).id), .v (.int .i64 (yAt l i).kind), .v (.string (yAt l i).name), .v (.int .i64 (yAt l i).base), .v (.int .i64 (yAt l i).next), .sl 2 (encP (yAt l i).props)], .box g2 29 [.v (.int .i64 16)], .box g1 22 [.sl 6 (encSs l)]] H) ⟨Nat.zero_le _, List.Sublist.refl _⟩ (by rw [chD_len]; rcases hend with h | h; exact .inl h.1; exact .inr (fun H hJ => by have := hJ.1; omega)) ?_ (by rfl) ?_ ?_ ?_ ?_
          · skip
            intro x hx
            unfold chD at hx
            obtain ⟨k, _, rfl⟩ := List.mem_map.1 hx
            rfl
          · skip
            rintro k x Hc w F S lr hx ⟨hkl, hsub⟩
            refine TC.forget (fun _ _ h => h) hsub ?_
            have hkN : k < N := by have := (List.getElem?_eq_some_iff.1 hx).1; rwa [chD_len] at this
            rw [chD_get _ _ _ _ hkN] at hx
            obtain rfl := Option.some.inj hx
            refine TC.skip ?_
            refine ⟨rfl, fun w F S => ?_⟩
            refine TC.block ?_; refine TC.seq ?_; refine TC.region ?_
            first | refine TL.run1 (pure_load1 Ty.one3 rfl) rfl ?_ | refine TL.run1 (pure_load1_own Ty.one3 rfl (by repeat (first | exact List.Mem.head _ | apply List.Mem.tail)) (by repeat (first | exact DropR.zero _ | apply DropR.succ))) rfl ?_
            refine TL.run1 (pure_add rfl rfl (mkI64 (by omega) (by omega))) rfl ?_; refine TL.store rfl rfl (.one (by first | rfl | assumption)) Try.sizeOf3 rfl (by repeat (first | exact UpdR.here _ | apply UpdR.there)) (by repeat (first | exact PutR.nil _ | apply PutR.here | apply PutR.skip)) ?_; refine TL.nil' ?_; refine TC.seq ?_; refine TC.region ?_
            first | refine TL.run1 (pure_load1 Ty.one3 rfl) rfl ?_ | refine TL.run1 (pure_load1_own Ty.one3 rfl (by repeat (first | exact List.Mem.head _ | apply List.Mem.tail)) (by repeat (first | exact DropR.zero _ | apply DropR.succ))) rfl ?_
            first | refine TL.run1 (pure_load1 Ty.one22 rfl) rfl ?_ | refine TL.run1 (pure_load1_own Ty.one22 rfl (by repeat (first | exact List.Mem.head _ | apply List.Mem.tail)) (by repeat (first | exact DropR.zero _ | apply DropR.succ))) rfl ?_
            first | refine TL.run1 (pure_len Ty.sl22 rfl) rfl ?_ | refine TL.run1 (pure_len_row Ty.sl22 rfl (by repeat (first | exact List.Mem.head _ | apply List.Mem.tail))) rfl ?_ | refine TL.run1 (pure_len_nil Ty.sl22 rfl) rfl ?_
            refine TL.run1 (pure_gtr rfl rfl) rfl ?_; refine TL.nil' ?_
            first | refine TC.condD rfl (fun hc77 => ?_) (fun hc77 => ?_) | refine TC.condN rfl (fun hc77 => ?_) (fun hc77 => ?_) | refine TC.cond rfl (fun hc77 => ?_) (fun hc77 => ?_)
            · try dsimp only at hc77
              refine TC.seq ?_; refine TC.region ?_; refine TL.store rfl rfl (.one (by first | rfl | assumption)) Try.sizeOf29 rfl (by repeat (first | exact UpdR.here _ | apply UpdR.there)) (by repeat (first | exact PutR.nil _ | apply PutR.here | apply PutR.skip)) ?_; refine TL.nil' ?_; refine TC.ret ?_; refine block_ret ?_
              have hke : k = l.length := by omega
              exact ⟨rfl, fun j hj => (hN j (by omega)).1, by rw [show (((l.length + 1 : Nat)) : Int) = (k : Int) + 1 by omega]; repeat (first | exact List.nil_sublist _ | exact List.Sublist.refl _ | apply List.Sublist.cons_cons | apply List.Sublist.cons)⟩
            · try dsimp only at hc77
              refine TC.skip ?_; refine block_normal ?_
              have hkk : k + 1 ≤ l.length := by omega
              exact ⟨hkk, by rw [show (((k + 1 : Nat)) : Int) = (k : Int) + 1 by omega]; repeat (first | exact List.nil_sublist _ | exact List.Sublist.refl _ | apply List.Sublist.cons_cons | apply List.Sublist.cons)⟩
          · skip
            rintro Hc ⟨hkN, hsub⟩
            rw [chD_len] at hkN
            have hnc : ¬ cycP l i := fun hcy => by (rcases hend with ⟨h, h2⟩ | h; exact hcy N h2 h; omega)
            refine block_normal ?_; refine block_normal ?_; refine then_normal ?_; refine TC.forget (fun _ _ h => h) hsub ?_; refine TC.region ?_; refine TL.run1 (pure_add rfl rfl (mkI64 (by omega) (by omega))) rfl ?_; refine TL.run1 (pure_move rfl) rfl ?_; refine TL.nil ?_
            refine loop_next (i + 1) ⟨by ((try dsimp only); rw [show (((i + 1 : Nat)) : Int) = (i : Int) + 1 by omega]; repeat (first | exact Agree.nil | refine Agree.cons rfl ?_)), by repeat (first | exact List.nil_sublist _ | exact List.Sublist.refl _ | apply List.Sublist.cons_cons | apply List.Sublist.cons)⟩ ⟨by omega, fun j h => by rcases Nat.lt_or_eq_of_le (Nat.le_of_lt_succ h) with h | h; exact h4 j h; subst h; exact hnc⟩ (by omega)
          · skip
            rintro Hc ⟨_, hcy, hsub⟩
            refine block_ret ?_; refine block_ret ?_; refine then_ret ?_; refine loop_ret ?_; refine block_ret ?_; refine then_ret ?_
            exact ret_one1 (.inl rfl) Ty.one29 rfl (hsub.mem (by repeat (first | exact List.Mem.head _ | apply List.Mem.tail))) (by rw [← checkS_cyc h0 hown hbad (by omega) hcy])
          · skip
            rintro id Hc ⟨he, _⟩
            cases he
        · try dsimp only at hc64
          refine TC.exit ?_; refine then_exit ?_; refine loop_exit ?_; refine block_here ?_; refine then_normal ?_; refine TC.seq ?_; refine TC.region ?_; refine TL.store rfl rfl (.one (by first | rfl | assumption)) Try.sizeOf29 rfl (by repeat (first | exact UpdR.here _ | apply UpdR.there)) (by repeat (first | exact PutR.nil _ | apply PutR.here | apply PutR.skip)) ?_; refine TL.nil' ?_; refine TC.ret ?_
          exact ret_one1 (.inl rfl) Ty.one29 rfl (by repeat (first | exact List.Mem.head _ | apply List.Mem.tail)) (by rw [← checkS_ok h0 hown hbad (fun j hj => h4 j (by omega))])
end Go.Ob
