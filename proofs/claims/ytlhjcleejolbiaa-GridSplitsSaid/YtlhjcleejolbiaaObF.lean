/- Slices that a call grows; entering and leaving a function; what is made becomes data. -/
import Derived.Test.YtlhjcleejolbiaaObE
set_option linter.unusedVariables false
set_option linter.unusedSimpArgs false
set_option linter.unusedSectionVars false
namespace Go.Ob
open Go.RowKit

theorem flatten_get {α : Type} {es : Nat} (hes : 0 < es) : ∀ (ys : List (List α)), (∀ y ∈ ys, y.length = es) → ∀ j, ys.flatten[j]? = (ys[j / es]?).bind (·[j % es]?)
  | [], _, j => by simp
  | y :: ys, hy, j => by
    have hl : y.length = es := hy y (by simp)
    have ih := flatten_get hes ys (fun z hz => hy z (by simp [hz]))
    by_cases hj : j < es
    · rw [List.flatten_cons, List.getElem?_append_left (by omega), Nat.div_eq_of_lt hj, Nat.mod_eq_of_lt hj]
      simp
    · rw [List.flatten_cons, List.getElem?_append_right (by omega), ih, hl]
      have e1 : j / es = (j - es) / es + 1 := by
        rw [← Nat.add_div_right _ hes]
        congr 1
        omega
      have e2 : j % es = (j - es) % es := by rw [Nat.mod_eq_sub_mod (by omega)]
      rw [e1, e2]
      simp

theorem flatten_len {α : Type} {es : Nat} : ∀ (ys : List (List α)), (∀ y ∈ ys, y.length = es) → ys.flatten.length = ys.length * es
  | [], _ => by simp
  | y :: ys, hy => by
    rw [List.flatten_cons, List.length_append, flatten_len ys (fun z hz => hy z (by simp [hz])), hy y (by simp), List.length_cons, Nat.add_mul, Nat.one_mul, Nat.add_comm]

structure AppT (P : Program) (t e es bytes : Nat) : Prop where
  pos : 0 < es
  under : P.underlying t = some (.slice e)
  size : ∀ w, (sizeOf e).run P w = .ok es w
  info : ∃ i z, P.info? e = some i ∧ i.zero = some z ∧ i.size = es ∧ i.bytes = bytes ∧ z.cells.size = es

theorem AppT.slice {P : Program} {t e es bytes : Nat} (h : AppT P t e es bytes) : SliceT P t e es := ⟨h.under, h.size⟩

/-- A slice that is only read, as a row of values in memory. -/
theorem Rep.sl_row {w : World} {o : Nat → Prop} {es : Nat} {ys : List (List D)} {u : Value} (hes : 0 < es) (h : Rep w o (.sl es ys) u) :
    (u = .slice none 0 0 ∧ ys = []) ∨ ∃ (a : Addr) (c : Nat) (news : List Value), u = .slice (some a) ys.length c ∧ news.length = ys.length * es ∧ (∀ y ∈ ys, y.length = es) ∧
      (∀ (j : Nat) (v : Value), news[j]? = some v → w.cell? (a.add j) = some v) ∧ (∀ v ∈ news, v.oneCell' = true) ∧
      ∀ (j : Nat) (d : D) (v : Value), ys.flatten[j]? = some d → news[j]? = some v → v.oneCell' = true ∧ Rep w o d v := by
  cases h with
  | nil => exact .inl ⟨rfl, rfl⟩
  | sl _ _ a c val hc he hb hcell hrep =>
    refine .inr ⟨a, c, (List.range (ys.length * es)).map fun j => val (j / es) (j % es), rfl, by simp, he, ?_, ?_, ?_⟩
    all_goals
      have key : ∀ j, j < ys.length * es → ∃ x d, ys[j / es]? = some x ∧ x[j % es]? = some d := by
        intro j hj
        have h1 : j / es < ys.length := Nat.div_lt_of_lt_mul (by rw [Nat.mul_comm]; exact hj)
        have h2 : j % es < ys[j / es].length := by rw [he _ (List.getElem_mem h1)]; exact Nat.mod_lt _ hes
        exact ⟨_, _, List.getElem?_eq_getElem h1, List.getElem?_eq_getElem h2⟩
    · intro j v hv
      have hj : j < ys.length * es := by simpa using (List.getElem?_eq_some_iff.1 hv).1
      obtain ⟨x, d, hx, hd⟩ := key j hj
      have e : v = val (j / es) (j % es) := by simpa [hj] using hv.symm
      have := (hcell _ _ x d hx hd).1
      rw [show j / es * es + j % es = j from by rw [Nat.mul_comm]; exact Nat.div_add_mod j es] at this
      rw [e]; exact this
    · intro v hv
      obtain ⟨j, hj⟩ := List.mem_iff_getElem?.1 hv
      have hlt : j < ys.length * es := by simpa using (List.getElem?_eq_some_iff.1 hj).1
      obtain ⟨x, d, hx, hd⟩ := key j hlt
      have e : v = val (j / es) (j % es) := by simpa [hlt] using hj.symm
      rw [e]; exact (hcell _ _ x d hx hd).2
    · intro j d v hd hv
      have hj : j < ys.length * es := by simpa using (List.getElem?_eq_some_iff.1 hv).1
      have e : v = val (j / es) (j % es) := by simpa [hj] using hv.symm
      rw [flatten_get hes ys he] at hd
      obtain ⟨x, hx, hd⟩ := Option.bind_eq_some_iff.1 hd
      rw [e]
      exact ⟨(hcell _ _ x d hx hd).2, hrep _ _ x d hx hd⟩

theorem run_append_nil_src {P : Program} (w : World) (base : Nat) (t ty e : TypeId) (i : TypeInfo) (size : Nat) (ht : P.underlying t = some (.slice e)) (hi : P.info? e = some i)
    (v : Value) (n : Nat) (xs : List Value) (hown : w.ownsRow base e size v n xs) (c : Nat) : (Builtin.append_ #[t, t] ty #[v, .slice none 0 c]).run P w = .ok v w := by
  rcases hown.2 with ⟨rfl, rfl⟩ | ⟨g, cap, cur, rfl, _, _, hnc, _⟩
  · simp [Builtin.append_, run_underlying ht, sizeOf, typeInfo, hi, Builtin.lenOf, Builtin.firstCells]
  · simp [Builtin.append_, run_underlying ht, sizeOf, typeInfo, hi, Builtin.lenOf, Builtin.firstCells, hnc, storeCells]

theorem ownsRow_one {w : World} {base e es n : Nat} {v : Value} {xs : List Value} (h : w.ownsRow base e es v n xs) : v.oneCell' = true := by
  rcases h.2 with ⟨rfl, _⟩ | ⟨g, cap, cur, rfl, _⟩ <;> rfl

section
variable {K : Ctx} {Q : Exit → Env → Hp → Prop} {env : Env} {H : Hp} {ops : Array Oper} {rest : List Oper} {t : Nat} {ty : TypeId} {pos : String} {af : Array Edge}

theorem row_ok {w : World} {F : Nat → Prop} (hh : HeapOK w (both F H) H) {v : Value} {e es : Nat} {xs : List (List D)} (hm : Blk.row v e es xs ∈ H) :
    ∃ vals : List Value, w.ownsRow 0 e es v xs.length vals ∧ (∀ x ∈ xs, x.length = es) ∧
      ∀ (j : Nat) (d : D) (u : Value), xs.flatten[j]? = some d → vals[j]? = some u → u.oneCell' = true ∧ Rep w (both F H) d u := hh.each _ hm

theorem TL.append {tt e es bytes : Nat} {x y : Operand} {v : Value} {xs ys : List (List D)} {H' : Value → Hp} (ht : AppT K.P tt e es bytes) (hx : opD env x = some (.v v)) (hy : opD env y = some (.sl es ys))
    (hu : ∀ v', UpdR (.row v e es xs) (.row v' e es (xs ++ ys)) H (H' v')) (hb : (xs.length + ys.length) * bytes ≤ 140737488355328) (hl : xs.length + ys.length ≤ 9223372036854775807) (hd : Nat.blt t K.n = true)
    (h : ∀ v', v'.oneCell' = true → TL K ops rest Q (env.put t (some (.v v'))) (H' v')) :
    TL K ops (⟨some t, .call { callee := .builtin .append, args := #[x, y], argTypes := #[tt, tt] }, ty, pos, af, none⟩ :: rest) Q env H := fun a w hs => by
  unfold wpListIn
  rw [if_pos (by rfl)]
  obtain ⟨i, z, hi, hz, hsz, hby, hzs⟩ := ht.info
  have e1 := Rep.of_v (hs.eval hx)
  obtain ⟨vals, hown, hxe, hj⟩ := row_ok hs.heap (hu v).mem
  have hvl : vals.length = xs.length * es := hown.1
  have hxl : xs.flatten.length = xs.length * es := flatten_len xs hxe
  -- what an append leaves, whatever the source
  have main : ∃ (v' : Value) (w' : World) (news : List Value), (Builtin.append_ #[tt, tt] ty #[v, a.eval y]).run K.P w = .ok v' w' ∧ w'.ownsRow 0 e es v' (xs.length + ys.length) (vals ++ news) ∧ w.grownBy w' v.ownBlock ∧
      (v'.ownBlock = v.ownBlock ∨ v'.ownBlock = some w.heap.size) ∧ (∀ y ∈ ys, y.length = es) ∧
      ∀ (j : Nat) (d : D) (u : Value), ys.flatten[j]? = some d → news[j]? = some u → u.oneCell' = true ∧ Rep w (both K.F H) d u := by
    rcases (hs.eval hy).sl_row ht.pos with ⟨e2, rfl⟩ | ⟨ad, c, news, e2, hnl, hye, hnc, hno, hnr⟩
    · refine ⟨v, w, [], ?_, by simpa using hown, World.grownBy.refl w _, .inl rfl, by simp, fun j d u hd => by simp at hd⟩
      rw [e2]
      exact run_append_nil_src w 0 tt ty e i es ht.under hi v xs.length vals hown 0
    · obtain ⟨v', w', hr, h2, h3, _, h5⟩ := run_append_own_at (P := K.P) w 0 tt ty e i z es bytes ht.under hi hz hsz hby hzs ht.pos v xs.length vals hown ad ys.length c news hnl hnc hno
        (by simp only [maxLen]; omega) hb (Nat.zero_le _)
      exact ⟨v', w', news, by rw [e2]; exact hr, h2, h3, h5, hye, hnr⟩
  obtain ⟨v', w', news, hr, hown', hg, hbl, hye, hnr⟩ := main
  have erun : (execOp a.eval ⟨some t, .call { callee := .builtin .append, args := #[x, y], argTypes := #[tt, tt] }, ty, pos, af, none⟩).run K.P w = .ok (.value v') w' := by
    simp [execOp, resolve, invoke, builtin, e1, hr]
  refine wpIn_ok (fun _ h => by cases h) erun ?_
  have k : Kept (fun g => (Blk.row v e es xs).blk = some g) w w' := ⟨hg.os, hg.tape, hg.output, hg.size, fun k hk hn => hg.block k hk (fun e => hn e.symm)⟩
  have hbb : ∀ g', (Blk.row v' e es (xs ++ ys)).blk = some g' → (Blk.row v e es xs).blk = some g' ∨ w.heap.size ≤ g' := fun g' hg' => by
    simp only [Blk.blk] at hg' ⊢
    rcases hbl with h1 | h1
    · exact .inl (h1 ▸ hg')
    · right; rw [h1] at hg'; cases hg'; exact Nat.le_refl _
  have hrep : ∀ {d u}, Rep w (both K.F H) d u → Rep w' (both K.F (H' v')) d u := fun hr => hs.rep_upd (hu v') hbb k hr
  refine h v' (ownsRow_one hown') _ _ (Sat.dst (hs.upd (hu v') hbb k ⟨vals ++ news, by simpa using hown', ?_, ?_⟩) (by simpa [Nat.blt_eq] using hd) (.v _))
  · intro x hx
    rcases List.mem_append.1 hx with h1 | h1
    · exact hxe x h1
    · exact hye x h1
  · intro j d u hdj huj
    rw [List.flatten_append] at hdj
    by_cases hlt : j < xs.flatten.length
    · rw [List.getElem?_append_left hlt] at hdj
      rw [List.getElem?_append_left (by omega)] at huj
      obtain ⟨q1, q2⟩ := hj j d u hdj huj
      exact ⟨q1, hrep q2⟩
    · rw [List.getElem?_append_right (by omega)] at hdj
      rw [List.getElem?_append_right (by omega), show vals.length = xs.flatten.length by omega] at huj
      obtain ⟨q1, q2⟩ := hnr _ d u hdj huj
      exact ⟨q1, hrep q2⟩

/-- A nil slice is a row of the call's own. -/
theorem Sat.nilrow {a : Act} {w : World} (h : Sat K env H a w) (e es : Nat) : Sat K env (.row (.slice none 0 0) e es [] :: H) a w :=
  h.push (Kept.refl _ _) (fun g hg => by cases hg) ⟨[], ⟨by simp, .inl ⟨rfl, rfl⟩⟩, by simp, fun j d u hd => by simp at hd⟩

theorem TC.nilrow {c : Code} (e es : Nat) (h : TC K c Q env (.row (.slice none 0 0) e es [] :: H)) : TC K c Q env H := TC.view (fun _ _ hs => hs.nilrow e es) h
theorem TL.nilrow {l : List Oper} (e es : Nat) (h : TL K ops l Q env (.row (.slice none 0 0) e es [] :: H)) : TL K ops l Q env H := fun a w hs => h a w (hs.nilrow e es)

/-- A row that has been made, seen as data: it is not written any more. -/
theorem row_data {w : World} {F : Nat → Prop} {v : Value} {e es : Nat} {xs : List (List D)} (hes : 0 < es) (hok : (Blk.row v e es xs).ok w F) (hF : ∀ g, v.ownBlock = some g → ¬ F g) : Rep w F (.sl es xs) v := by
  obtain ⟨vals, hown, hxe, hj⟩ := hok
  rcases hown.2 with ⟨rfl, hn⟩ | ⟨g, cap, cur, rfl, _, hg, hnc, _, hcs, htake⟩
  · have : xs = [] := List.eq_nil_of_length_eq_zero hn
    subst this
    exact .nil es
  · have hfl : ∀ (i j : Nat) (x : List D) (d : D), xs[i]? = some x → x[j]? = some d → xs.flatten[i * es + j]? = some d ∧ i * es + j < vals.length := by
      intro i j x d hx hd
      have hxl := hxe x (List.mem_of_getElem? hx)
      have hjl : j < es := by rw [← hxl]; exact (List.getElem?_eq_some_iff.1 hd).1
      have hil : i < xs.length := (List.getElem?_eq_some_iff.1 hx).1
      refine ⟨?_, ?_⟩
      · rw [flatten_get hes xs hxe]
        have e1 : (i * es + j) / es = i := by rw [Nat.mul_comm, Nat.mul_add_div hes, Nat.div_eq_of_lt hjl, Nat.add_zero]
        have e2 : (i * es + j) % es = j := by rw [Nat.mul_comm, Nat.mul_add_mod, Nat.mod_eq_of_lt hjl]
        rw [e1, e2, hx]
        exact hd
      · rw [hown.1]
        have : (i + 1) * es ≤ xs.length * es := Nat.mul_le_mul_right _ hil
        rw [Nat.add_mul] at this
        omega
    refine .sl es xs ⟨g, 0, none⟩ cap (fun i j => vals.getD (i * es + j) undef) hnc hxe (fun _ => ⟨hF g rfl, (Array.getElem?_eq_some_iff.1 hg).1⟩) (fun i j x d hx hd => ?_) (fun i j x d hx hd => ?_)
    · obtain ⟨h1, h2⟩ := hfl i j x d hx hd
      have hv : vals[i * es + j]? = some (vals.getD (i * es + j) undef) := by simp [h2]
      refine ⟨?_, (hj _ _ _ h1 hv).1⟩
      rw [own_add, cell_of_row w g _ cur e (0, 0) hg, Nat.zero_add, ← hv, ← htake, List.getElem?_take_of_lt (by rw [← hown.1]; exact h2)]
      simp
    · obtain ⟨h1, h2⟩ := hfl i j x d hx hd
      exact (hj _ _ _ h1 (by simp [h2])).2

/-- One block less is owned: it is data from here on. -/
inductive DelR (b : Blk) : Hp → Hp → Prop where
  | here (H : Hp) : DelR b (b :: H) H
  | there (x : Blk) {H H' : Hp} : DelR b H H' → DelR b (x :: H) (x :: H')
theorem DelR.sub {b : Blk} {H H' : Hp} (h : DelR b H H') : H'.Sublist H ∧ b ∈ H := by
  induction h with
  | here H => exact ⟨List.sublist_cons_self _ _, by simp⟩
  | there x _ ih => exact ⟨ih.1.cons_cons x, by simp [ih.2]⟩
theorem DelR.apart {b : Blk} {H H' : Hp} (h : DelR b H H') (hp : H.Pairwise (fun b b' => ∀ g, b.blk = some g → b'.blk ≠ some g)) : ∀ x ∈ H', ∀ g, b.blk = some g → x.blk ≠ some g := by
  induction h with
  | here H => exact (List.pairwise_cons.1 hp).1
  | there y hd ih =>
    obtain ⟨h1, h2⟩ := List.pairwise_cons.1 hp
    intro x hx g hg hxg
    rcases List.mem_cons.1 hx with rfl | hx
    · exact h1 b hd.sub.2 g hxg hg
    · exact ih h2 x hx g hg hxg

theorem Sat.freeze {a : Act} {w : World} {v : Value} {e es : Nat} {xs : List (List D)} {H' : Hp} (h : Sat K env H a w) (hes : 0 < es) (hd : DelR (.row v e es xs) H H') (ht : env t = some (.v v)) :
    Sat K (env.put t (some (.sl es xs))) H' a w := by
  have h1 : Sat K env H' a w := h.forget (fun _ _ h => h) hd.sub.1
  refine ⟨fun t' d hd' => ?_, h1.size, h1.defers, h1.heap, h1.kept, h1.fresh, h1.foreign⟩
  rcases Env.put_some hd' with ⟨rfl, ho⟩ | ⟨hne, ho⟩
  · cases ho
    obtain ⟨u, hu, hr⟩ := h1.tmps t' _ ht
    refine ⟨u, hu, ?_⟩
    rw [Rep.of_v hr]
    refine row_data hes (Blk.ok_fewer (h.heap.each _ hd.sub.2) fun g => both_mono fun _ => (hd.sub.1.subset ·)) fun g hg hF => ?_
    rcases hF with hF | ⟨x, hx, hxg⟩
    · exact (h.F_lt g hF).2 ⟨_, hd.sub.2, hg⟩
    · exact hd.apart h.heap.apart x hx g hg hxg
  · exact h1.tmps t' d ho

theorem TC.freeze {c : Code} {v : Value} {e es : Nat} {xs : List (List D)} {H' : Hp} (t : Nat) (hes : 0 < es) (hd : DelR (.row v e es xs) H H') (ht : env t = some (.v v)) (h : TC K c Q (env.put t (some (.sl es xs))) H') :
    TC K c Q env H := TC.view (fun _ _ hs => hs.freeze hes hd ht) h
theorem TL.freeze {l : List Oper} {v : Value} {e es : Nat} {xs : List (List D)} {H' : Hp} (t : Nat) (hes : 0 < es) (hd : DelR (.row v e es xs) H H') (ht : env t = some (.v v)) (h : TL K ops l Q (env.put t (some (.sl es xs))) H') :
    TL K ops l Q env H := fun a w hs => h a w (hs.freeze hes hd ht)

/-! ### entering and leaving a function -/
/-- What the results mean. -/
inductive ResD (P : Program) (env : Env) (H : Hp) : List ResultVar → List D → Prop where
  | nil : ResD P env H [] []
  | tmp {t : Nat} {d : D} {rs : List ResultVar} {ds : List D} : env t = some d → ResD P env H rs ds → ResD P env H (.tmp t :: rs) (d :: ds)
  | cell {t T n g T' : Nat} {cs : List D} {rs : List ResultVar} {ds : List D} : AggT P T n → env t = some (.v (.pointer (some ⟨g, 0, none⟩))) → Blk.box g T' cs ∈ H → Nat.beq cs.length n = true → ResD P env H rs ds → ResD P env H (.cell t T :: rs) (.agg cs :: ds)
  | one {t T g T' : Nat} {d : D} {rs : List ResultVar} {ds : List D} : OneT P T → env t = some (.v (.pointer (some ⟨g, 0, none⟩))) → Blk.box g T' [d] ∈ H → ResD P env H rs ds → ResD P env H (.cell t T :: rs) (d :: ds)

def oneD : List D → D
  | [d] => d
  | ds => .tup ds

/-- The state at a function's end: its results mean r; R holds. -/
def RetA (P : Program) (rs : Array ResultVar) (R : D → Hp → Prop) (e : Exit) (env : Env) (H : Hp) : Prop :=
  (e = .ret ∨ e = .normal) ∧ ∃ ds, ResD P env H rs.toList ds ∧ ∃ H', H'.Sublist H ∧ R (oneD ds) H'

theorem env_args_get {k : Nat} : ∀ {ds : List D} {t : Nat} {d : D}, Env.args k ds t = some d → k ≤ t ∧ ds[t - k]? = some d
  | [], t, d, h => by simp [Env.args] at h
  | d0 :: ds, t, d, h => by
    simp only [Env.args] at h
    rcases Env.put_some h with ⟨hk, ho⟩ | ⟨hne, ho⟩
    · subst hk; injection ho with ho; subst ho; exact ⟨Nat.le_refl _, by simp⟩
    · obtain ⟨h1, h2⟩ := env_args_get (k := k + 1) ho
      refine ⟨by omega, ?_⟩
      rw [show t - k = (t - (k + 1)) + 1 by omega]
      simpa using h2

theorem run_results {P : Program} {w : World} {F : Nat → Prop} {tmps : Array Value} (hh : HeapOK w (both F H) H)
    (ht : ∀ t d, env t = some d → ∃ u, tmps[t]? = some u ∧ Rep w (both F H) d u) :
    ∀ {rs : List ResultVar} {ds : List D}, ResD P env H rs ds →
      ∃ vs : List Value, (rs.mapM fun | .tmp t => pure (tmps.getD t undef) | .cell a t => do loadVar t (← asAddr (tmps.getD a undef)) : Sem (List Value)).run P w = .ok vs w ∧ vs.length = ds.length ∧
        ∀ (j : Nat) (d : D) (u : Value), ds[j]? = some d → vs[j]? = some u → Rep w (both F H) d u := by
  intro rs ds h
  induction h with
  | nil => exact ⟨[], rfl, rfl, fun j d u hd => by simp at hd⟩
  | @tmp t d rs ds h1 h2 ih =>
    obtain ⟨vs, hr, hl, hj⟩ := ih
    obtain ⟨u, hu, hrep⟩ := ht t d h1
    refine ⟨u :: vs, ?_, by simp [hl], fun j d' u' hd hu' => ?_⟩
    · rw [List.mapM_cons]
      simp only [Sem.run_bind, Sem.run_pure, Result.andThen_ok, hr]
      simp [hu]
    · cases j with
      | zero =>
        have e1 : d = d' := by simpa using hd
        have e2 : u = u' := by simpa using hu'
        subst e1; subst e2; exact hrep
      | succ j => exact hj j d' u' (by simpa using hd) (by simpa using hu')
  | @cell t T n g T' cs rs ds hT h1 hm hcl0 h2 ih =>
    obtain ⟨vs, hr, hl, hj⟩ := ih
    have hcl : cs.length = n := Nat.eq_of_beq_eq_true hcl0
    obtain ⟨u, hu, hrep⟩ := ht t _ h1
    have e1 := Rep.of_v hrep
    subst e1
    obtain ⟨vals, hg, hvs, hjj⟩ := ok_box hh hm
    have hcell : ∀ j, j < n → w.cell? ((⟨g, 0, none⟩ : Addr).add j) = some (vals.getD j undef) := fun j hj => by
      rw [own_add, cell_of_row w g (0 + j) vals T' (0, 0) hg]
      simp [show j < vals.size by omega]
    have hload : (loadVar T ⟨g, 0, none⟩).run P w = .ok (.agg vals) w := by
      have : ((List.range n).map fun j => vals.getD j undef).toArray = vals := by
        apply Array.ext
        · simp; omega
        · intro i h1 h2
          simp [h2]
      simp [loadVar, hT.agg, hT.size, run_loadCells_vals hcell]
      simpa using this
    refine ⟨.agg vals :: vs, ?_, by simp [hl], fun j d' u' hd hu' => ?_⟩
    · rw [List.mapM_cons]
      have e2 : tmps.getD t undef = .pointer (some ⟨g, 0, none⟩) := by simp [hu]
      have e3 : (asAddr (Value.pointer (some ⟨g, 0, none⟩))).run P w = .ok ⟨g, 0, none⟩ w := rfl
      simp only [e2, e3, Sem.run_bind, Sem.run_pure, Result.andThen_ok, hload, hr]
    · cases j with
      | zero =>
        have e1 : D.agg cs = d' := by simpa using hd
        have e2 : Value.agg vals = u' := by simpa using hu'
        subst e1; subst e2
        exact .agg cs vals hvs (fun j u hu => by
          have hlt : j < cs.length := by rw [← hvs]; exact (Array.getElem?_eq_some_iff.1 hu).1
          exact (hjj j _ u (List.getElem?_eq_getElem hlt) hu).1) (fun j d u hd hu => (hjj j d u hd hu).2)
      | succ j => exact hj j d' u' (by simpa using hd) (by simpa using hu')
  | @one t T g T' d0 rs ds hT h1 hm h2 ih =>
    obtain ⟨vs, hr, hl, hj⟩ := ih
    obtain ⟨u, hu, hrep⟩ := ht t _ h1
    have e1 := Rep.of_v hrep
    subst e1
    obtain ⟨vals, hg, hvs, hjj⟩ := ok_box hh hm
    have hv1 : vals.size = 1 := by simpa using hvs
    have hx : vals[0]? = some vals[0] := Array.getElem?_eq_getElem (by omega)
    obtain ⟨ho, hrp⟩ := hjj 0 d0 vals[0] (by simp) hx
    have hcell : w.cell? ⟨g, 0, none⟩ = some vals[0] := by
      rw [cell_of_row w g 0 vals T' (0, 0) hg, hx]
    have hload : (loadVar T ⟨g, 0, none⟩).run P w = .ok vals[0] w := by
      simp [loadVar, hT.one, hcell]
    refine ⟨vals[0] :: vs, ?_, by simp [hl], fun j d' u' hd hu' => ?_⟩
    · rw [List.mapM_cons]
      have e2 : tmps.getD t undef = .pointer (some ⟨g, 0, none⟩) := by simp [hu]
      have e3 : (asAddr (Value.pointer (some ⟨g, 0, none⟩))).run P w = .ok ⟨g, 0, none⟩ w := rfl
      simp only [e2, e3, Sem.run_bind, Sem.run_pure, Result.andThen_ok, hload, hr]
    · cases j with
      | zero =>
        have e1 : d0 = d' := by simpa using hd
        have e2 : vals[0] = u' := by simpa using hu'
        subst e1; subst e2
        exact hrp
      | succ j => exact hj j d' u' (by simpa using hd) (by simpa using hu')

theorem calls_of_body {P : Program} {f : FuncId} {fn : Func} {c : Code} {ds : List D} {R : D → Hp → Prop} {w : World} {F : Nat → Prop} {vs : List Value} (hf : P.funcs[f]? = some fn) (hb : fn.body = some c) (hl : ds.length ≤ fn.ntmps)
    (h : TC ⟨P, fn.ntmps, w, F, own H, none⟩ c (RetA P fn.results R) (Env.args 0 ds) H) (hvl : vs.length = ds.length) (hv : ∀ (j : Nat) (d : D) (u : Value), ds[j]? = some d → vs[j]? = some u → Rep w (both F H) d u)
    (hh : HeapOK w (both F H) H) (hF : Foreign P F w (own H)) :
    Calls P f vs.toArray w fun e w' => ∃ v r H', e = .returned v ∧ R r H' ∧ Rep w' (both F H') r v ∧ HeapOK w' (both F H') H' ∧ Kept (own H) w w' ∧
      ∀ g, own H' g → own H g ∨ w.heap.size ≤ g := by
  have hsat : Sat ⟨P, fn.ntmps, w, F, own H, none⟩ (Env.args 0 ds) H { tmps := vs.toArray ++ Array.replicate (fn.ntmps - vs.toArray.size) undef, defers := [] } w := by
    refine ⟨fun t d hd => ?_, by simp; omega, .nil _ _ _, hh, Kept.refl _ _, fun g hg => .inl hg, hF⟩
    obtain ⟨_, hd⟩ := env_args_get hd
    have hlt : t < vs.length := by rw [hvl]; exact (List.getElem?_eq_some_iff.1 hd).1
    exact ⟨vs[t], by simp [Array.getElem?_append, hlt], hv t d _ hd (List.getElem?_eq_getElem hlt)⟩
  refine (callsIn_wide (n := 0)).1 (callsIn_of_wp_marks hf hb trivial (wpIn_mono (h _ w hsat) ?_))
  rintro e a' w' ⟨env', H', hs, he, rs, hres, H'', hsub, hR⟩
  have main : LeavesInM Fence.wide 0 P fn a'.tmps (fun e w' => ∃ v r H', e = .returned v ∧ R r H' ∧ Rep w' (both F H') r v ∧ HeapOK w' (both F H') H' ∧ Kept (own H) w w' ∧ ∀ g, own H' g → own H g ∨ w.heap.size ≤ g) a'.defers .returning w' := by
    refine leaves_of (B := w.heap.size) a'.defers w' w' hs.defers (Kept.refl _ _) (fun w2 k2 => ?_)
    obtain ⟨us, hrun, hul, hj⟩ := run_results (P := P) (hs.heap.shut k2) (fun t d ht => let ⟨u, hu, hr⟩ := hs.tmps t d ht; ⟨u, hu, hr.shut k2⟩) hres
    have hrr : (results fn a'.tmps).run P w2 = .ok (if h : us.length = 1 then us[0] else .tuple us.toArray) w2 := by
      unfold results
      have e0 : fn.results = fn.results.toList.toArray := by simp
      rw [e0, List.mapM_toArray]
      simp only [Sem.run_bind, Sem.run_map]
      erw [hrun]
      simp
    have hfew : ∀ {d u}, Rep w2 (both F H') d u → Rep w2 (both F H'') d u := fun hr => hr.fewer fun g => both_mono fun _ => (hsub.subset ·)
    have hrep : Rep w2 (both F H'') (oneD rs) (if h : us.length = 1 then us[0] else .tuple us.toArray) := by
      by_cases h1 : us.length = 1
      · obtain ⟨r, rfl⟩ := List.length_eq_one_iff.1 (hul ▸ h1)
        obtain ⟨u, rfl⟩ := List.length_eq_one_iff.1 h1
        rw [dif_pos h1]
        exact hfew (hj 0 r u rfl rfl)
      · rw [dif_neg h1]
        have : oneD rs = .tup rs := by
          match rs, hul with
          | [], _ => rfl
          | [_], hul => exact absurd hul h1
          | _ :: _ :: _, _ => rfl
        rw [this]
        exact .tup rs us.toArray (by simpa using hul) (fun j d u hd hu => hfew (hj j d u hd (by simpa using hu)))
    have hk2 : Kept (own H) w w2 := ⟨k2.os.trans hs.kept.os, k2.tape.trans hs.kept.tape, k2.output.trans hs.kept.output, Nat.le_trans hs.kept.size k2.size, fun b hb hn => by
      rw [k2.block b (Nat.lt_of_lt_of_le hb hs.kept.size) (fun hsh => by have := hsh.1; omega)]
      exact hs.kept.block b hb hn⟩
    exact ⟨_, hrr, _, _, H'', rfl, hR, hrep, (hs.heap.shut k2).sub hsub (fun g => both_mono fun _ => (hsub.subset ·)), hk2, fun g hg => hs.fresh g (own_mono (fun _ => (hsub.subset ·)) hg)⟩
  rcases he with rfl | rfl
  · exact main
  · exact main

theorem CallD.of_body {P : Program} {f : FuncId} {fn : Func} {c : Code} {ds : List D} {R : D → Hp → Prop} (hf : P.funcs[f]? = some fn) (hb : fn.body = some c) (hl : ds.length ≤ fn.ntmps)
    (h : ∀ w F, TC ⟨P, fn.ntmps, w, F, own H, none⟩ c (RetA P fn.results R) (Env.args 0 ds) H) : CallD P f ds H R :=
  fun w F vs hvl hv hh hF => calls_of_body hf hb hl (h w F) hvl hv hh hF

theorem Fun.of_body {P : Program} {f : FuncId} {fn : Func} {c : Code} {ds : List D} {r : D} (hf : P.funcs[f]? = some fn) (hb : fn.body = some c) (hl : ds.length ≤ fn.ntmps)
    (h : ∀ w F, TC ⟨P, fn.ntmps, w, F, own [], none⟩ c (RetA P fn.results (fun r' H' => r' = r ∧ H' = [])) (Env.args 0 ds) []) : Fun P f ds r := CallD.of_body hf hb hl h

end
end Go.Ob
