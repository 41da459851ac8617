import Derived.Test.YtlhjcleejolbiaaZb
set_option linter.unusedVariables false
set_option linter.unusedSimpArgs false
set_option linter.unnecessarySimpa false
/- Calls that write what the caller owns; ranges over functions. -/
set_option linter.unusedVariables false
set_option linter.unusedSimpArgs false
set_option linter.unusedSectionVars false
namespace Go.Ob
open Go.RowKit
inductive SplitR : Hp → Hp → Hp → Prop where
  | nil : SplitR [] [] []
  | left {b : Blk} {A B C : Hp} : SplitR A B C → SplitR (b :: A) (b :: B) C
  | right {b : Blk} {A B C : Hp} : SplitR A B C → SplitR (b :: A) B (b :: C)
theorem SplitR.all : ∀ (A : Hp), SplitR A A []
  | [] => .nil
  | _ :: A => .left (SplitR.all A)
theorem SplitR.none : ∀ (A : Hp), SplitR A [] A
  | [] => .nil
  | _ :: A => .right (SplitR.none A)
theorem SplitR.app : ∀ (A B : Hp), SplitR (A ++ B) A B
  | [], B => SplitR.none B
  | _ :: A, B => .left (SplitR.app A B)
theorem SplitR.spec {A B C : Hp} (h : SplitR A B C) : B.Sublist A ∧ C.Sublist A ∧ ∀ b, b ∈ A ↔ b ∈ B ∨ b ∈ C := by
  induction h with
  | nil => exact ⟨.slnil, .slnil, fun b => by simp⟩
  | left _ ih => exact ⟨ih.1.cons_cons _, ih.2.1.cons _, fun b => by simp [ih.2.2 b, or_assoc]⟩
  | right _ ih => exact ⟨ih.1.cons _, ih.2.1.cons_cons _, fun b => by simp [ih.2.2 b]; constructor <;> (rintro (h | h | h) <;> simp [h])⟩
theorem SplitR.apart {A B C : Hp} (h : SplitR A B C) (hp : A.Pairwise (fun b b' => ∀ g, b.blk = some g → b'.blk ≠ some g)) : ∀ b ∈ B, ∀ c ∈ C, ∀ g, b.blk = some g → c.blk ≠ some g := by
  induction h with
  | nil => intro b hb; cases hb
  | left hs ih =>
    obtain ⟨h1, h2⟩ := List.pairwise_cons.1 hp
    intro b hb c hc g hg
    rcases List.mem_cons.1 hb with rfl | hb
    · exact h1 c ((hs.spec.2.2 c).2 (.inr hc)) g hg
    · exact ih h2 b hb c hc g hg
  | right hs ih =>
    obtain ⟨h1, h2⟩ := List.pairwise_cons.1 hp
    intro b hb c hc g hg
    rcases List.mem_cons.1 hc with rfl | hc
    · exact fun hcg => h1 b ((hs.spec.2.2 b).2 (.inl hb)) g hcg hg
    · exact ih h2 b hb c hc g hg
theorem SplitR.own {A B C : Hp} (h : SplitR A B C) (g : Nat) : own A g ↔ own B g ∨ own C g := by
  constructor
  · rintro ⟨b, hb, hg⟩
    rcases (h.spec.2.2 b).1 hb with hb | hb
    · exact .inl ⟨b, hb, hg⟩
    · exact .inr ⟨b, hb, hg⟩
  · rintro (⟨b, hb, hg⟩ | ⟨b, hb, hg⟩)
    · exact ⟨b, (h.spec.2.2 b).2 (.inl hb), hg⟩
    · exact ⟨b, (h.spec.2.2 b).2 (.inr hb), hg⟩
theorem own_append {A B : Hp} (g : Nat) : own (A ++ B) g ↔ own A g ∨ own B g := (SplitR.app A B).own g
section
variable {K : Ctx} {Q : Exit → Env → Hp → Prop} {env : Env} {H H1 H2 H1' : Hp} {ops : Array Oper} {rest : List Oper} {dst : Option Nat} {ty : TypeId} {pos : String} {af : Array Edge}
theorem HeapOK.frame {F : Nat → Prop} {w w' : World} (h : HeapOK w (both F H) H) (hs : SplitR H H1 H2) (hh : HeapOK w' (both (both F H2) H1') H1') (k : Kept (own H1) w w')
    (hf : ∀ g, own H1' g → own H1 g ∨ w.heap.size ≤ g) : HeapOK w' (both F (H1' ++ H2)) (H1' ++ H2) := by
  have hset : ∀ g, both F (H1' ++ H2) g → both (both F H2) H1' g := fun g hg => by
    rcases hg with h | h
    · exact .inl (.inl h)
    · rcases (own_append g).1 h with h | h
      · exact .inr h
      · exact .inl (.inr h)
  have hold : ∀ g, g < w.heap.size → both F (H1' ++ H2) g → both F H g := fun g hlt hg => by
    rcases hset g hg with (h | h) | h
    · exact .inl h
    · exact .inr ((hs.own g).2 (.inr h))
    · rcases hf g h with h | h
      · exact .inr ((hs.own g).2 (.inl h))
      · omega
  refine ⟨fun b hb => ?_, ?_⟩
  · rcases List.mem_append.1 hb with hb | hb
    · exact Blk.ok_fewer (hh.each b hb) hset
    · have hbo := h.each b (hs.spec.2.1.subset hb)
      refine Blk.ok_mono hbo (fun g hg => k.block g (Blk.blk_lt hbo hg) fun ho => ?_) (fun d u hr => hr.kept k (fun g _ hg => .inr ((hs.own g).2 (.inl hg))) hold)
      obtain ⟨b1, hb1, hg1⟩ := ho
      exact hs.apart h.apart b1 hb1 b hb g hg1 hg
  · rw [List.pairwise_append]
    refine ⟨hh.apart, h.apart.sublist hs.spec.2.1, fun b hb c hc g hg => ?_⟩
    rcases hf g ⟨b, hb, hg⟩ with ⟨b1, hb1, hg1⟩ | hge
    · exact hs.apart h.apart b1 hb1 c hc g hg1
    · intro hcg
      have := Blk.blk_lt (h.each c (hs.spec.2.1.subset hc)) hcg
      omega
theorem Sat.frame {a : Act} {w w' : World} (h : Sat K env H a w) (hs : SplitR H H1 H2) (hh : HeapOK w' (both (both K.F H2) H1') H1') (k : Kept (own H1) w w')
    (hf : ∀ g, own H1' g → own H1 g ∨ w.heap.size ≤ g) : Sat K env (H1' ++ H2) a w' :=
  h.step (k.mono fun g _ hg => (hs.own g).2 (.inl hg)) (fun g hg => by
    rcases (own_append g).1 hg with h1 | h1
    · exact (hf g h1).imp (fun h2 => (hs.own g).2 (.inl h2)) id
    · exact .inl ((hs.own g).2 (.inr h1))) (h.heap.frame hs hh k hf)
theorem HeapOK.part {F : Nat → Prop} {w : World} (h : HeapOK w (both F H) H) (hs : SplitR H H1 H2) : HeapOK w (both (both F H2) H1) H1 :=
  h.sub hs.spec.1 (fun g hg => by
    rcases hg with (h | h) | h
    · exact .inl h
    · exact .inr ((hs.own g).2 (.inr h))
    · exact .inr ((hs.own g).2 (.inl h)))
theorem part_F {P : Program} {F : Nat → Prop} {w : World} (h : HeapOK w (both F H) H) (hs : SplitR H H1 H2) (hF : Foreign P F w (own H)) : Foreign P (both F H2) w (own H1) := ⟨fun g hg => by
  rcases hg with hg | hg
  · exact ⟨(hF g hg).1, fun ho => (hF g hg).2 ((hs.own g).2 (.inl ho))⟩
  · refine ⟨own_lt h ((hs.own g).2 (.inr hg)), fun ho => ?_⟩
    obtain ⟨b1, hb1, hg1⟩ := ho
    obtain ⟨b2, hb2, hg2⟩ := hg
    exact hs.apart h.apart b1 hb1 b2 hb2 g hg1 hg2, hF.glob.less fun g hg => (hs.own g).2 (.inl hg)⟩
theorem part_set {F : Nat → Prop} (hs : SplitR H H1 H2) {g : Nat} (hg : both (both F H2) H1 g) : both F H g := by
  rcases hg with (h | h) | h
  · exact .inl h
  · exact .inr ((hs.own g).2 (.inr h))
  · exact .inr ((hs.own g).2 (.inl h))
theorem TL.callD {f : FuncId} {args : Array Operand} {ts : Array TypeId} {ds : List D} {R : D → Hp → Prop} (hs : SplitR H H1 H2) (hf : CallD K.P f ds H1 R) (ha : ArgsD env args.toList ds)
    (hc : ∀ (as0 : Array Value) (w : World), (callFunc f as0).run K.P w = .ok (.enter f as0) w) (hd : ∀ t, dst = some t → t < K.n)
    (h : ∀ r H', R r H' → TL K ops rest Q (env.putO dst (some r)) (H' ++ H2)) :
    TL K ops (⟨dst, .call { callee := .value (.func f), args := args, argTypes := ts }, ty, pos, af, none⟩ :: rest) Q env H := fun a w hsat => by
  unfold wpListIn
  rw [if_pos (by rfl)]
  obtain ⟨hl, hr⟩ := ha.rep (w := w) (o := both K.F H) (ρ := a.eval) fun x hxm => fun dx hx => hsat.eval hx
  have hcall := hf w (both K.F H2) (args.toList.map a.eval) hl (fun j d u hd hu => (hr j d u hd hu).fewer fun g => part_set hs) (hsat.heap.part hs) (part_F hsat.heap hs hsat.F_lt)
  have hrun : (execOp a.eval ⟨dst, .call { callee := .value (.func f), args := args, argTypes := ts }, ty, pos, af, none⟩).run K.P w = .ok (.enter f (args.toList.map a.eval).toArray) w := by
    have e3 : (List.map a.eval args.toList).toArray = Array.map a.eval args := by rw [← List.map_toArray]
    simp [execOp, resolve, Deferred.ofValue, Act.eval, invoke, hc, e3]
  refine wpIn_ok (fun _ h => by cases h) hrun ⟨fen_shallow, calls_fen (hcall.mono ?_)⟩
  rintro e w' ⟨v, r, H', rfl, hR, hrep, hh, hk, hfr⟩
  have hs' := hsat.frame hs hh hk hfr
  refine h r H' hR _ _ (hs'.put (Kept.refl _ _) hd fun d hd' => ?_)
  cases hd'
  exact hrep.fewer fun g hg => by
    rcases hg with h | h
    · exact .inl (.inl h)
    · rcases (own_append g).1 h with h | h
      · exact .inr h
      · exact .inl (.inr h)
def YieldD (P : Program) (l : Nat) (xs : List D) (H : Hp) (R : Bool → Hp → Prop) (w1 : World) (S1 F1 : Nat → Prop) : Prop :=
  ∀ (w : World) (F : Nat → Prop) (vs : List Value), Kept S1 w1 w → (∀ g, F1 g → F g) → (∀ g, F g → F1 g ∨ S1 g ∨ w1.heap.size ≤ g) → (∀ g, own H g → S1 g ∨ w1.heap.size ≤ g) →
    vs.length = xs.length → (∀ (j : Nat) (d : D) (u : Value), xs[j]? = some d → vs[j]? = some u → Rep w (both F H) d u) → HeapOK w (both F H) H → Foreign P F w (own H) →
    ∃ rc : Loop, w.heap[l]? = some (.loop rc) ∧ vs.length = rc.params.size ∧
      RoundIn Fence.wide 0 P l rc.fn ((rc.params.zip vs.toArray).foldl (fun tmps (t, a) => tmps.setIfInBounds t a) rc.tmps) rc.assign rc.body w fun e w' =>
        ∃ b H', e = .returned (.bool b) ∧ R b H' ∧ HeapOK w' (both F H') H' ∧ Kept (own H) w w' ∧ ∀ g, own H' g → own H g ∨ w.heap.size ≤ g
theorem TL.yield {l : Nat} {fo : Operand} {args : Array Operand} {ts : Array TypeId} {ds : List D} {R : Bool → Hp → Prop} (hr0 : K.r = none) (hs : SplitR H H1 H2) (hfo : opD env fo = some (.v (.func (.yield l) #[] #[])))
    (hy : YieldD K.P l ds H1 R K.w0 K.S K.F) (ha : ArgsD env args.toList ds) (hd : ∀ t, dst = some t → t < K.n)
    (h : ∀ b H', R b H' → TL K ops rest Q (env.putO dst (some (.v (.bool b)))) (H' ++ H2)) :
    TL K ops (⟨dst, .call { callee := .value fo, args := args, argTypes := ts }, ty, pos, af, none⟩ :: rest) Q env H := fun a w hsat => by
  unfold wpListIn
  rw [if_pos (by rfl)]
  obtain ⟨hl, hr⟩ := ha.rep (w := w) (o := both K.F H) (ρ := a.eval) fun x hxm => fun dx hx => hsat.eval hx
  obtain ⟨rc, hrc, hps, hround⟩ := hy w (both K.F H2) (args.toList.map a.eval) hsat.kept (fun g hg => .inl hg) (fun g hg => by
      rcases hg with hg | hg
      · exact .inl hg
      · exact .inr (hsat.fresh g ((hs.own g).2 (.inr hg)))) (fun g hg => hsat.fresh g ((hs.own g).2 (.inl hg))) hl
    (fun j d u hd hu => (hr j d u hd hu).fewer fun g => part_set hs) (hsat.heap.part hs) (part_F hsat.heap hs hsat.F_lt)
  have hfo' := Rep.of_v (hsat.eval hfo)
  have e3 : (List.map a.eval args.toList).toArray = Array.map a.eval args := by rw [← List.map_toArray]
  have hrun : (execOp a.eval ⟨dst, .call { callee := .value fo, args := args, argTypes := ts }, ty, pos, af, none⟩).run K.P w = .ok (.round l rc.fn ((rc.params.zip (args.toList.map a.eval).toArray).foldl (fun tmps (t, a) => tmps.setIfInBounds t a) rc.tmps) rc.assign rc.body) w := by
    have := run_yield (P := K.P) (args := Array.map a.eval args) hrc (by rw [← hps]; simp)
    rw [e3]
    simp [execOp, resolve, Deferred.ofValue, hfo', invoke, this]
  have hfen : fen K.r = Fence.wide := by rw [hr0]; rfl
  refine wpIn_ok (fun _ h => by cases h) hrun ⟨fen_shallow, ?_⟩
  rw [hfen]
  refine RoundIn.mono hround ?_
  rintro e w' ⟨b, H', rfl, hR, hh, hk, hfr⟩
  have hs' := hsat.frame hs hh hk hfr
  have := h b H' hR _ _ (hs'.put (dst := dst) (od := some (.v (.bool b))) (v := .bool b) (Kept.refl _ _) hd fun d hd' => by cases hd'; exact .v _)
  rw [hfen] at this
  exact this
def SeqD (P : Program) (f : FuncId) (caps : List D) (xs : List (List D)) : Prop :=
  ∀ (l : Nat) (J Jx : Nat → Hp → Prop) (w1 : World) (F1 : Nat → Prop) (H0 : Hp) (vs : List Value), vs.length = caps.length →
    (∀ (j : Nat) (d : D) (u : Value), caps[j]? = some d → vs[j]? = some u → Rep w1 (both F1 H0) d u) → HeapOK w1 (both F1 H0) H0 → Foreign P F1 w1 (own H0) → J 0 H0 →
    (∀ k x H, xs[k]? = some x → J k H → YieldD P l x H (fun b H' => if b = true then J (k + 1) H' else Jx (k + 1) H') w1 (own H0) F1) →
    Calls P f (.func (.yield l) #[] #[] :: vs).toArray w1 fun e w' => ∃ v H', e = .returned v ∧ (J xs.length H' ∨ ∃ k, Jx k H') ∧ HeapOK w' (both F1 H') H' ∧ Kept (own H0) w1 w' ∧ ∀ g, own H' g → own H0 g ∨ w1.heap.size ≤ g
end
theorem SeqD.enter {P : Program} {f n : Nat} {fn : Func} {c : Code} {caps : List D} {xs : List (List D)} (hf : P.funcs[f]? = some fn) (hb : fn.body = some c) (hn : fn.ntmps = n) (hr : fn.results = #[]) (hl : Nat.ble (caps.length + 1) n = true)
    (h : ∀ (l : Nat) (J Jx : Nat → Hp → Prop) (w : World) (F : Nat → Prop) (H0 : Hp), J 0 H0 → (∀ k x H, xs[k]? = some x → J k H → YieldD P l x H (fun b H' => if b = true then J (k + 1) H' else Jx (k + 1) H') w (own H0) F) →
      TC ⟨P, n, w, F, own H0, none⟩ c (RetA P #[] (fun _ H' => J xs.length H' ∨ ∃ k, Jx k H')) (Env.args 0 (.v (.func (.yield l) #[] #[]) :: caps)) H0) : SeqD P f caps xs := by
  subst hn
  intro l J Jx w1 F1 H0 vs hvl hv hh hF h0 hy
  have hb' : caps.length + 1 ≤ fn.ntmps := Nat.le_of_ble_eq_true hl
  refine (calls_of_body (ds := .v (.func (.yield l) #[] #[]) :: caps) hf hb (by simpa using hb') (hr ▸ h l J Jx w1 F1 H0 h0 hy) (by simp [hvl]) (fun j d u hd hu => ?_) hh hF).mono ?_
  · match j with
    | 0 => simp at hd hu; subst hd; subst hu; exact .v _
    | j + 1 => exact hv j d u (by simpa using hd) (by simpa using hu)
  · rintro e w' ⟨v, r, H', rfl, hR, _, h1, h2, h3⟩
    exact ⟨v, H', rfl, hR, h1, h2, h3⟩
end Go.Ob
/- A region that draws its order, whose last operations are forced behind all others: the first part in the order of the text, only reading; then the last part, which may write. -/
set_option linter.unusedVariables false
set_option linter.unusedSimpArgs false
set_option linter.unusedSectionVars false
namespace Go.Ob
open Go.RowKit
def bindsOn (md : Region.Mode) (ops : Array Oper) (j i : Nat) : Bool :=
  match ops[j]? with
  | none => false
  | some o => o.after.any fun e => Region.binds md e && Nat.beq e.on i
def tailB (md : Region.Mode) (ops : Array Oper) (m : Nat) : Bool :=
  Nat.blt m ops.size &&
  (List.range ops.size).all (fun j => match ops[j]? with | none => false | some o => o.after.all fun e => !Region.binds md e || Nat.blt e.on j) &&
  (List.range m).all (fun i => (List.range (m + 1)).any fun j => Nat.blt i j && bindsOn md ops j i) &&
  (List.range ops.size).all (fun j => !Nat.blt m j || bindsOn md ops j (j - 1))
structure TailP (md : Region.Mode) (ops : Array Oper) (m : Nat) : Prop where
  lt : m < ops.size
  back : ∀ (j : Nat) (o : Oper), ops[j]? = some o → ∀ e ∈ o.after, Region.binds md e = true → e.on < j
  cover : ∀ i, i < m → ∃ j, i < j ∧ j ≤ m ∧ ∃ o, ops[j]? = some o ∧ ∃ e ∈ o.after, Region.binds md e = true ∧ e.on = i
  chain : ∀ j, m < j → j < ops.size → ∃ o, ops[j]? = some o ∧ ∃ e ∈ o.after, Region.binds md e = true ∧ e.on = j - 1
theorem bindsOn_spec {md : Region.Mode} {ops : Array Oper} {j i : Nat} (h : bindsOn md ops j i = true) : ∃ o, ops[j]? = some o ∧ ∃ e ∈ o.after, Region.binds md e = true ∧ e.on = i := by
  unfold bindsOn at h
  split at h
  · cases h
  · rename_i o ho
    rw [Array.any_eq_true] at h
    obtain ⟨k, hk, h⟩ := h
    simp only [Bool.and_eq_true] at h
    exact ⟨o, ho, o.after[k], Array.getElem_mem hk, h.1, Nat.eq_of_beq_eq_true h.2⟩
theorem tailP {md : Region.Mode} {ops : Array Oper} {m : Nat} (h : tailB md ops m = true) : TailP md ops m := by
  simp only [tailB, Bool.and_eq_true] at h
  obtain ⟨⟨⟨h1, h2⟩, h3⟩, h4⟩ := h
  refine ⟨by simpa [Nat.blt_eq] using h1, fun j o ho e he hb => ?_, fun i hi => ?_, fun j hj hlt => ?_⟩
  · have hj : j < ops.size := (Array.getElem?_eq_some_iff.1 ho).1
    have := List.all_eq_true.1 h2 j (List.mem_range.2 hj)
    simp only [ho] at this
    rw [Array.all_eq_true_iff_forall_mem] at this
    have := this e he
    simpa [hb, Nat.blt_eq] using this
  · have := List.all_eq_true.1 h3 i (List.mem_range.2 hi)
    obtain ⟨j, hj, h⟩ := List.any_eq_true.1 this
    simp only [Bool.and_eq_true, Nat.blt_eq] at h
    exact ⟨j, h.1, by have := List.mem_range.1 hj; omega, bindsOn_spec h.2⟩
  · have := List.all_eq_true.1 h4 j (List.mem_range.2 hlt)
    simp only [Bool.or_eq_true, Bool.not_eq_true', Nat.blt_eq] at this
    rcases this with h | h
    · rw [show Nat.blt m j = true from by simpa [Nat.blt_eq] using hj] at h; cases h
    · exact bindsOn_spec h
def lst (L : Array Bool) (r : Nat) : Array Bool := L ++ Array.replicate r false
def Down (md : Region.Mode) (ops : Array Oper) (L : Array Bool) : Prop :=
  ∀ (j : Nat) (o : Oper), ops[j]? = some o → L.getD j false = true → ∀ e ∈ o.after, Region.binds md e = true → L.getD e.on false = true
section
variable {P : Program} {ops pre : Array Oper} {md : Region.Mode} {H : Hp} {n m : Nat}
theorem lst_get {L : Array Bool} {r i : Nat} (d : Bool) (hi : i < L.size) : (lst L r).getD i d = L.getD i d := by
  simp [lst, hi, Nat.lt_add_right]
theorem lst_get_tail {L : Array Bool} {r i : Nat} (hi : L.size ≤ i) : (lst L r).getD i false = false := by
  simp only [lst, Array.getD_eq_getD_getElem?]
  rw [Array.getElem?_append_right hi, Array.getElem?_replicate]
  split <;> rfl
theorem ready_pre (ht : TailP md ops m) {L : Array Bool} (hL : L.size = m) (hd : Down md ops L) {r : Nat} {j : Nat} (hj : j ∈ Region.ready md ops (lst L r)) {i : Nat} (hi : i < m) (hu : L.getD i false = false) : j < m := by
  obtain ⟨hjl, o, ho, hall⟩ := mem_ready.1 hj
  rcases Nat.lt_or_ge j m with h | h
  · exact h
  exfalso
  rcases Nat.eq_or_lt_of_le h with h | h
  · -- the last part's first
    subst h
    -- the greatest that is left
    have key : ∀ k, k ≤ m → (∀ x, m - k ≤ x → x < m → L.getD x false = true) := by
      intro k
      induction k with
      | zero => intro _ x h1 h2; omega
      | succ k ih =>
        intro hk x h1 h2
        rcases Nat.lt_or_ge x (m - k) with hx | hx
        · obtain ⟨j', hj1, hj2, o', ho', e, he, hb, heq⟩ := ht.cover x h2
          rcases Nat.eq_or_lt_of_le hj2 with h | h
          · subst h
            rw [ho] at ho'
            cases ho'
            have := hall e he hb
            rw [heq, lst_get false (by omega)] at this
            exact this
          · have := hd j' o' ho' (ih (by omega) j' (by omega) h) e he hb
            rwa [heq] at this
        · exact ih (by omega) x hx h2
    have := key m (Nat.le_refl _) i (by omega) hi
    rw [this] at hu
    cases hu
  · obtain ⟨o', ho', e, he, hb, heq⟩ := ht.chain j h (Array.getElem?_eq_some_iff.1 ho).1
    rw [ho] at ho'
    cases ho'
    have := hall e he hb
    rw [heq, lst_get_tail (by omega)] at this
    cases this
theorem lst_set {L : Array Bool} {r j : Nat} (hj : j < L.size) : (lst L r).setIfInBounds j true = lst (L.setIfInBounds j true) r := by
  apply Array.ext'
  simp [lst, List.set_append, hj]
theorem Want.of_pre {o : Oper} {env : Env} {b : Bool} (hpre : ∀ (i : Nat) (o : Oper), pre[i]? = some o → ops[i]? = some o) (h : Want pre o env b) : Want ops o env b := by
  unfold Want at *
  cases hg : o.guard with
  | none => simpa only [hg] using h
  | some p =>
    obtain ⟨j, want⟩ := p
    simp only [hg] at h ⊢
    obtain ⟨t, c, ht, hc, hb⟩ := h
    refine ⟨t, c, ?_, hc, hb⟩
    obtain ⟨oj, ho, hd⟩ := Option.bind_eq_some_iff.1 ht
    rw [hpre j oj ho]; exact hd
theorem first_false {L : Array Bool} (h : L.toList.count false ≠ 0) : ∃ i, i < L.size ∧ L.getD i true = false ∧ ∀ j, j < i → L.getD j false = true := by
  have : ∀ (l : List Bool), l.count false ≠ 0 → ∃ i, i < l.length ∧ l.getD i true = false ∧ ∀ j, j < i → l.getD j false = true := by
    intro l
    induction l with
    | nil => intro h; simp at h
    | cons b l ih =>
      intro h
      cases b with
      | false => exact ⟨0, by simp, rfl, fun j hj => by omega⟩
      | true =>
        obtain ⟨i, h1, h2, h3⟩ := ih (by simpa using h)
        exact ⟨i + 1, by simpa using h1, by simpa using h2, fun j hj => by
          cases j with
          | zero => rfl
          | succ j => simpa using h3 j (by omega)⟩
  obtain ⟨i, h1, h2, h3⟩ := this L.toList h
  refine ⟨i, by simpa using h1, by simpa [Array.getD_eq_getD_getElem?, List.getD_eq_getElem?_getD] using h2, fun j hj => by simpa [Array.getD_eq_getD_getElem?, List.getD_eq_getElem?_getD] using h3 j hj⟩
theorem all_true {L : Array Bool} (h : L.toList.count false = 0) : L = Array.replicate L.size true := by
  apply Array.ext'
  rw [Array.toList_replicate]
  refine List.eq_replicate_iff.2 ⟨by simp, fun b hb => ?_⟩
  cases b with
  | true => rfl
  | false => exact absurd hb (List.count_eq_zero.1 h)
theorem wpAny_pre {K : Ctx} {Qp : Env → Prop} {Q' : Exit → Act → World → Prop} (ht : TailP md ops m) (hpre : ∀ i, i < m → pre[i]? = ops[i]?) (hpz : pre.size = m) (f : Nat)
    (hQ : ∀ env a w, Qp env → Sat K env H a w → wpAnyIn (fen K.r) 0 K.P md ops Q' f (lst (Array.replicate m true) (ops.size - m)) a w) :
    ∀ (fuel : Nat) (L : Array Bool) (env : Env) (a : Act) (w : World), L.size = m → Down md ops L → L.toList.count false = fuel → Sat K env H a w → anyA K.P md pre H K.n Qp fuel L env →
      wpAnyIn (fen K.r) 0 K.P md ops Q' (fuel + f) (lst L (ops.size - m)) a w := by
  have hpre' : ∀ i o, pre[i]? = some o → ops[i]? = some o := fun i o h => by rw [← hpre i (by rw [← hpz]; exact (Array.getElem?_eq_some_iff.1 h).1)]; exact h
  intro fuel
  induction fuel with
  | zero =>
    intro L env a w hL hd hc hs h
    rw [Nat.zero_add, all_true hc, hL]
    exact hQ env a w h.2 hs
  | succ fuel ih =>
    intro L env a w hL hd hc hs h
    obtain ⟨i, hi, hif, hib⟩ := first_false (L := L) (by omega)
    have hif' : L.getD i false = false := by
      simp only [Array.getD_eq_getD_getElem?, Array.getElem?_eq_getElem hi, Option.getD_some] at hif ⊢
      exact hif
    have hiops : i < ops.size := by have := ht.lt; omega
    have hir : i ∈ Region.ready md ops (lst L (ops.size - m)) := mem_ready.2 ⟨by rw [lst_get true hi]; exact hif, ops[i], Array.getElem?_eq_getElem hiops, fun e he hb => by
      have hlt := ht.back i _ (Array.getElem?_eq_getElem hiops) e he hb
      rw [lst_get false (by omega)]
      exact hib _ hlt⟩
    rw [show fuel + 1 + f = (fuel + f) + 1 by omega]
    refine ⟨fun h0 => (by rw [h0] at hir; cases hir), fun j hj => ?_⟩
    have hjm : j < m := ready_pre ht hL hd hj (hL ▸ hi) hif'
    obtain ⟨hjl, o, ho, hall⟩ := mem_ready.1 hj
    have hjo : pre[j]? = some o := by rw [hpre j hjm]; exact ho
    have hjr : j ∈ Region.ready md pre L := mem_ready.2 ⟨by rw [← lst_get true (r := ops.size - m) (by omega)]; exact hjl, o, hjo, fun e he hb => by
      have hlt := ht.back j o ho e he hb
      have := hall e he hb
      rwa [lst_get false (by omega)] at this⟩
    have h1 := h.2 j hjr
    have hjf : L.getD j true = false := (mem_ready.1 hjr).1
    have hjL : j < L.size := by omega
    have hLj : L[j] = false := by simpa [Array.getD_eq_getD_getElem?, Array.getElem?_eq_getElem hjL] using hjf
    have hnext : ∀ env' a' w', Sat K env' H a' w' → anyA K.P md pre H K.n Qp fuel (L.setIfInBounds j true) env' → wpAnyIn (fen K.r) 0 K.P md ops Q' (fuel + f) ((lst L (ops.size - m)).setIfInBounds j true) a' w' := fun env' a' w' hs' h' => by
      rw [lst_set hjL]
      refine ih _ env' a' w' (by simpa using hL) (fun j' o' ho' hl' e he hb => ?_) ?_ hs' h'
      · by_cases hjj : j = j'
        · subst hjj
          rw [ho] at ho'; cases ho'
          have hlt := ht.back j o ho e he hb
          have := hall e he hb
          rw [lst_get false (by omega)] at this
          exact getD_set_true this
        · rw [getD_set_ne false hjj] at hl'
          exact getD_set_true (hd j' o' ho' hl' e he hb)
      · have hjl2 : j < L.toList.length := by simpa using hjL
        have e1 : (L.setIfInBounds j true).toList = L.toList.set j true := by simp
        rw [e1, List.count_set hjl2]
        have : L.toList[j] = false := by simpa using hLj
        rw [this]
        simp only [beq_self_eq_true, if_true]
        have : (true == false) = false := rfl
        rw [this]
        simp only [Bool.false_eq_true, if_false]
        omega
    unfold qA at h1
    simp only [hjo] at h1
    unfold wpOpIn
    simp only [ho]
    obtain ⟨hdn, h1⟩ := h1
    rcases h1 with ⟨hw, d, hp, hk⟩ | ⟨hw, hk⟩
    · have hw' := hw.of_pre hpre'
      rw [if_pos (hw'.wanted hs)]
      exact hp.wp hs hdn fun a' w' hs' => hnext _ _ _ hs' hk
    · have hw' := hw.of_pre hpre'
      rw [if_neg (by rw [hw'.wanted hs]; simp)]
      exact ⟨fun _ _ => trivial, hnext _ _ _ (hs.put (Kept.refl _ _) hdn (fun d hd => by cases hd; exact .v _)) hk⟩
theorem wpAny_tail {F : Fence} {Q' : Exit → Act → World → Prop} (ht : TailP md ops m) : ∀ (k j : Nat) (l : List Oper) (a : Act) (w : World), m ≤ j → j + k = ops.size → (∀ i, l[i]? = ops[j + i]?) → wpListIn F 0 P ops Q' l a w →
    wpAnyIn F 0 P md ops Q' k (lst (Array.replicate j true) k) a w
  | 0, j, l, a, w, hm, hk, hl, h => by
    have hnil : l = [] := by
      cases l with
      | nil => rfl
      | cons o l => have := hl 0; simp at this; rw [Array.getElem?_eq_none (by omega)] at this; cases this
    subst hnil
    refine ⟨?_, h⟩
    apply List.eq_nil_iff_forall_not_mem.2
    intro x hx
    obtain ⟨h1, o, ho, _⟩ := mem_ready.1 hx
    have hlt := (Array.getElem?_eq_some_iff.1 ho).1
    rw [lst_get true (by simp; omega)] at h1
    simp [show x < j by omega] at h1
  | k + 1, j, l, a, w, hm, hk, hl, h => by
    have hjlt : j < ops.size := by omega
    obtain ⟨o, rest, rfl⟩ : ∃ o rest, l = o :: rest := by
      cases l with
      | nil => have := hl 0; simp at this; omega
      | cons o rest => exact ⟨o, rest, rfl⟩
    have ho : ops[j]? = some o := by simpa using (hl 0).symm
    have hjr : j ∈ Region.ready md ops (lst (Array.replicate j true) (k + 1)) := mem_ready.2 ⟨by simp [lst], o, ho, fun e he hb => by
      have hlt := ht.back j o ho e he hb
      rw [lst_get false (by simpa using hlt)]
      simp [hlt]⟩
    refine ⟨fun h0 => (by rw [h0] at hjr; cases hjr), fun x hx => ?_⟩
    obtain ⟨h1, o', ho', hall⟩ := mem_ready.1 hx
    have hxlt := (Array.getElem?_eq_some_iff.1 ho').1
    have hxj : x = j := by
      rcases Nat.lt_trichotomy x j with h | h | h
      · rw [lst_get true (by simpa using h)] at h1
        simp [h] at h1
      · exact h
      · obtain ⟨o2, ho2, e, he, hb, heq⟩ := ht.chain x (by omega) hxlt
        rw [ho'] at ho2; cases ho2
        have := hall e he hb
        rw [heq, lst_get_tail (by simp; omega)] at this
        cases this
    subst hxj
    have hset : (lst (Array.replicate x true) (k + 1)).setIfInBounds x true = lst (Array.replicate (x + 1) true) k := by
      apply Array.ext'
      simp only [lst, Array.toList_setIfInBounds, Array.toList_append, Array.toList_replicate]
      rw [List.set_append_right _ _ (by simp), List.length_replicate, Nat.sub_self, show List.replicate (k + 1) false = false :: List.replicate k false from rfl, List.set_cons_zero, List.replicate_succ', List.append_assoc]
      rfl
    have hstep : ∀ a w, wpListIn F 0 P ops Q' rest a w → wpAnyIn F 0 P md ops Q' k ((lst (Array.replicate x true) (k + 1)).setIfInBounds x true) a w := fun a w hh => by
      rw [hset]
      exact wpAny_tail ht k (x + 1) rest a w (by omega) (by omega) (fun i => by have := hl (i + 1); simpa [Nat.add_assoc, Nat.add_comm 1 i] using this) hh
    unfold wpOpIn
    simp only [ho]
    unfold wpListIn at h
    split
    · rename_i hw; rw [if_pos hw] at h; exact Oper.wpIn_mono hstep h
    · rename_i hw; rw [if_neg hw] at h; exact ⟨h.1, hstep _ _ h.2⟩
end
section
variable {K : Ctx} {Q : Exit → Env → Hp → Prop} {env : Env} {H : Hp}
theorem TC.drawTail {id : Nat} {l1 l2 : List Oper} (hm : K.P.follows .mixedOrders = true) (hB : Region.lexFrom .any l1.toArray l1.length 0 (Array.replicate l1.length false) = true) (ht : tailB .any (l1 ++ l2).toArray l1.length = true)
    (h : TD K l1.toArray l1 (fun _ e H' => TL K (l1 ++ l2).toArray l2 Q e H') env H) : TC K (.region id (l1 ++ l2).toArray true) Q env H := fun a w hs => by
  refine wpIn_region_any hm ?_
  have hT := tailP ht
  have hlex := anyA_lex (P := K.P) (H := H) (n := K.n) (md := .any) (ops := l1.toArray) (Q := fun e => TL K (l1 ++ l2).toArray l2 Q e H) l1 0 (Array.replicate l1.length false) env (by simp) hB h
  have := wpAny_pre (K := K) (Q' := liftQ K Q) (pre := l1.toArray) hT (fun i hi => by simp [List.getElem?_append_left hi]) (by simp) l2.length (fun env a w hq hs => by
      have := wpAny_tail (P := K.P) (F := fen K.r) (Q' := liftQ K Q) hT l2.length l1.length l2 a w (Nat.le_refl _) (by simp) (fun i => by simp [List.getElem?_append_right]) (hq a w hs)
      simpa using this) l1.length (Array.replicate l1.length false) env a _ (by simp) (fun j o ho hl => by
        simp only [Array.getD_eq_getD_getElem?, Array.getElem?_replicate] at hl
        split at hl <;> cases hl) (by simp) hs.drew hlex
  have e1 : (l1 ++ l2).toArray.size = l1.length + l2.length := by simp
  rw [e1]
  simpa [lst, Array.replicate_append_replicate] using this
theorem TC.drawTailN {id : Nat} {l : List Oper} (m : Nat) (hm : K.P.follows .mixedOrders = true) (hB : Region.lexFrom .any (l.take m).toArray (l.take m).length 0 (Array.replicate (l.take m).length false) = true) (ht : tailB .any l.toArray (l.take m).length = true)
    (h : TD K (l.take m).toArray (l.take m) (fun _ e H' => TL K l.toArray (l.drop m) Q e H') env H) : TC K (.region id l.toArray true) Q env H := by
  have := TC.drawTail (K := K) (Q := Q) (env := env) (H := H) (id := id) (l1 := l.take m) (l2 := l.drop m) hm hB (by rw [List.take_append_drop]; exact ht) (by rw [List.take_append_drop]; exact h)
  rwa [List.take_append_drop] at this
end
end Go.Ob
/- Pointers: the check against nil, comparison with nil. -/
set_option linter.unusedVariables false
set_option linter.unusedSimpArgs false
set_option linter.unusedSectionVars false
namespace Go.Ob
open Go.RowKit
section
variable {P : Program} {H : Hp} {env : Env} {dst : Option Tmp} {ty : TypeId} {pos : String} {af : Array Edge} {gd : Option (Nat × Bool)}
theorem Rep.at_ptr {w : World} {o : Nat → Prop} {cs : List D} {u : Value} (h : Rep w o (.at_ cs) u) : ∃ a, u = .pointer (some a) := by
  cases h; exact ⟨_, rfl⟩
theorem pure_nilCheck {x : Operand} {cs : List D} (hx : opD env x = some (.at_ cs)) : Pure P H ⟨dst, .nilCheck x, ty, pos, af, gd⟩ env (.at_ cs) := pure_of fun w _ ρ _ h => by
  have e1 := h x (by simp [Op.operands]) _ hx
  obtain ⟨a, ha⟩ := e1.at_ptr
  rw [ha] at e1
  exact ⟨_, by simp [execOp, ha], e1⟩
theorem pure_nilCheck_own {x : Operand} {g p : Nat} (hx : opD env x = some (.v (.pointer (some ⟨g, p, none⟩)))) : Pure P H ⟨dst, .nilCheck x, ty, pos, af, gd⟩ env (.v (.pointer (some ⟨g, p, none⟩))) := pure_of fun w _ ρ _ h => by
  have e1 := Rep.of_v (h x (by simp [Op.operands]) _ hx)
  exact ⟨_, by simp [execOp, e1], .v _⟩
section
variable {t t2 e : TypeId} {x y : Operand} {cs : List D}
end
end
end Go.Ob
/- A region that draws its order with one store ahead of its forced tail: the store only waits for what it needs; the other operations do not look at what it writes. -/
set_option linter.unusedVariables false
set_option linter.unusedSimpArgs false
set_option linter.unusedSectionVars false
namespace Go.Ob
open Go.RowKit
section
variable {P : Program} {ops pre : Array Oper} {md : Region.Mode} {H Hs H2 H' H2' : Hp} {n m : Nat}
theorem Pure.frame {o : Oper} {env : Env} {d : D} (hs : SplitR H Hs H2) (h : Pure P Hs o env d) : Pure P H o env d :=
  fun w F a hh hF hx r next Q hn => h w (both F H2) a (hh.part hs) (part_F hh hs hF)
    (fun x hxm dx hd => (hx x hxm dx hd).fewer fun g hg => part_set hs hg) r next Q fun v w' hr k => hn v w' (hr.fewer fun g hg => by
      rcases hg with h | h
      · exact .inl (.inl h)
      · rcases (hs.own g).1 h with h | h
        · exact .inr h
        · exact .inl (.inr h)) k
def feeds (md : Region.Mode) (ops : Array Oper) (m : Nat) (s : Oper) : Bool :=
  s.op.operands.all fun x => match x with
    | .tmp t => (List.range m).all fun i => match ops[i]? with
      | none => true
      | some o => match o.dst with
        | none => true
        | some d => !Nat.beq d t || bindsOn md ops m i
    | _ => true
end
section
variable {K : Ctx} {Q : Exit → Env → Hp → Prop} {env : Env} {H H' Hs H2 H2' : Hp}
end
end Go.Ob
/- Rows of the call's own, read where the order is drawn. -/
set_option linter.unusedVariables false
set_option linter.unusedSimpArgs false
set_option linter.unusedSectionVars false
namespace Go.Ob
open Go.RowKit
section
variable {K : Ctx} {Q : Exit → Env → Hp → Prop} {env : Env} {H : Hp}
end
section
variable {P : Program} {H : Hp} {env : Env} {dst : Option Tmp} {ty : TypeId} {pos : String} {af : Array Edge} {gd : Option (Nat × Bool)}
end
inductive MV where
  | i (a : Int)
  | b (c : Bool)
deriving DecidableEq
def MV.v : MV → Value
  | .i a => .int .i64 a
  | .b c => .bool c
def MV.k : MV → Bool
  | .i _ => true
  | .b _ => false
inductive MVD : List D → List MV → Prop where
  | nil : MVD [] []
  | i {a : Int} {ds : List D} {ms : List MV} : MVD ds ms → MVD (.v (.int .i64 a) :: ds) (.i a :: ms)
  | b {c : Bool} {ds : List D} {ms : List MV} : MVD ds ms → MVD (.v (.bool c) :: ds) (.b c :: ms)
theorem MVD.eq {ds : List D} {ms : List MV} (h : MVD ds ms) : ds = ms.map fun m => .v m.v := by induction h <;> simp [*, MV.v]
structure EqM (P : Program) (t : Nat) (ks : List Bool) : Prop where
  guard : P.eqGuardType P.depth t = false
  eq : ∀ w (as0 bs : List MV), as0.map MV.k = ks → bs.map MV.k = ks → (Op.equalIn 10000 t (.agg (as0.map MV.v).toArray) (.agg (bs.map MV.v).toArray)).run P w = .ok (decide (as0 = bs)) w
theorem agg_mvs {w : World} {o : Nat → Prop} {as0 : List MV} {u : Value} (h : Rep w o (.agg (as0.map fun a => .v a.v)) u) : u = .agg (as0.map MV.v).toArray := by
  cases h with
  | agg _ vs hs h1 hj =>
    congr 1
    apply Array.ext
    · simpa using hs
    · intro i h1 h2
      have := hj i _ _ (by rw [List.getElem?_map, List.getElem?_eq_getElem (by simpa using h2)]; rfl) (Array.getElem?_eq_getElem h1)
      simpa using Rep.of_v this
section
variable {P : Program} {H : Hp} {env : Env} {dst : Option Tmp} {ty : TypeId} {pos : String} {af : Array Edge} {gd : Option (Nat × Bool)} {t t2 : TypeId} {x y : Operand}
theorem pure_neq_mv {ks : List Bool} {ds es : List D} {as0 bs : List MV} (ht : EqM P t ks) (hx : opD env x = some (.agg ds)) (hy : opD env y = some (.agg es)) (h1 : MVD ds as0) (h2 : MVD es bs) (l1 : as0.map MV.k = ks) (l2 : bs.map MV.k = ks) :
    Pure P H ⟨dst, .binOp .neq t x y t2, ty, pos, af, gd⟩ env (.v (.bool (decide (as0 ≠ bs)))) := pure_of fun w _ ρ _ h => by
  rw [h1.eq] at hx
  rw [h2.eq] at hy
  have e1 := agg_mvs (h x (by simp [Op.operands]) _ hx)
  have e2 := agg_mvs (h y (by simp [Op.operands]) _ hy)
  have hg := run_eqGuard_agg (P := P) w .neq t x y (as0.map MV.v).toArray (bs.map MV.v).toArray ht.guard
  have he := run_neq_struct (P := P) w t (as0.map MV.v).toArray (bs.map MV.v).toArray
  rw [ht.eq w as0 bs l1 l2] at he
  refine ⟨_, ?_, .v _⟩
  simp only [execOp, e1, e2, Sem.run_bind, hg, Result.andThen_ok, he]
  simp [bne]
end
theorem CallD.enter {P : Program} {f n : Nat} {fn : Func} {c : Code} {ds : List D} {H : Hp} {R : D → Hp → Prop} {rs : List ResultVar} (hf : P.funcs[f]? = some fn) (hb : fn.body = some c) (hn : fn.ntmps = n) (hr : fn.results = rs.toArray) (hl : Nat.ble ds.length n = true)
    (h : ∀ w F, TC ⟨P, n, w, F, own H, none⟩ c (RetA P rs.toArray R) (Env.args 0 ds) H) : CallD P f ds H R := by
  subst hn
  exact CallD.of_body hf hb (by simpa using hl) (by rw [hr]; exact h)
end Go.Ob
/- The closed facts on the types of this translation; written by a program (gen.py). -/
set_option linter.unusedVariables false
set_option linter.unusedSimpArgs false
namespace Go.Ob
open Go.Proofs
namespace Ty
theorem follows : Try.prog.follows .mixedOrders = true := by kernel_rfl
theorem one3 : OneT Try.prog 3 := ⟨Try.isAgg3, Try.sizeOf3⟩
theorem one9 : OneT Try.prog 9 := ⟨Try.isAgg9, Try.sizeOf9⟩
theorem one22 : OneT Try.prog 22 := ⟨Try.isAgg22, Try.sizeOf22⟩
theorem sl22 : SliceT Try.prog 22 36 6 := ⟨Try.underlying22, Try.sizeOf36⟩
theorem app22 : AppT Try.prog 22 36 6 112 := ⟨by decide, Try.underlying22, Try.sizeOf36, ⟨Try.t36, _, by kernel_rfl, rfl, rfl, rfl, rfl⟩⟩
theorem one25 : OneT Try.prog 25 := ⟨Try.isAgg25, Try.sizeOf25⟩
theorem sl25 : SliceT Try.prog 25 40 6 := ⟨Try.underlying25, Try.sizeOf40⟩
theorem app25 : AppT Try.prog 25 40 6 48 := ⟨by decide, Try.underlying25, Try.sizeOf40, ⟨Try.t40, _, by kernel_rfl, rfl, rfl, rfl, rfl⟩⟩
theorem one27 : OneT Try.prog 27 := ⟨Try.isAgg27, Try.sizeOf27⟩
theorem sl27 : SliceT Try.prog 27 77 2 := ⟨Try.underlying27, Try.sizeOf77⟩
theorem app27 : AppT Try.prog 27 77 2 16 := ⟨by decide, Try.underlying27, Try.sizeOf77, ⟨Try.t77, _, by kernel_rfl, rfl, rfl, rfl, rfl⟩⟩
theorem one28 : OneT Try.prog 28 := ⟨Try.isAgg28, Try.sizeOf28⟩
theorem sl28 : SliceT Try.prog 28 111 2 := ⟨Try.underlying28, Try.sizeOf111⟩
theorem app28 : AppT Try.prog 28 111 2 16 := ⟨by decide, Try.underlying28, Try.sizeOf111, ⟨Try.t111, _, by kernel_rfl, rfl, rfl, rfl, rfl⟩⟩
theorem one29 : OneT Try.prog 29 := ⟨Try.isAgg29, Try.sizeOf29⟩
theorem sl29 : SliceT Try.prog 29 113 4 := ⟨Try.underlying29, Try.sizeOf113⟩
theorem app29 : AppT Try.prog 29 113 4 32 := ⟨by decide, Try.underlying29, Try.sizeOf113, ⟨Try.t113, _, by kernel_rfl, rfl, rfl, rfl, rfl⟩⟩
theorem agg31 : AggT Try.prog 31 4 := ⟨Try.isAgg31, Try.sizeOf31⟩
theorem f31_0 : FieldT Try.prog 31 0 0 := ⟨⟨_, _, 0, Try.underlying31, rfl, rfl, Try.sizeOf3⟩⟩
theorem f31_1 : FieldT Try.prog 31 1 1 := ⟨⟨_, _, 0, Try.underlying31, rfl, rfl, Try.sizeOf3⟩⟩
theorem f31_2 : FieldT Try.prog 31 2 2 := ⟨⟨_, _, 0, Try.underlying31, rfl, rfl, Try.sizeOf28⟩⟩
theorem f31_3 : FieldT Try.prog 31 3 3 := ⟨⟨_, _, 0, Try.underlying31, rfl, rfl, Try.sizeOf29⟩⟩
theorem zero31 : ZeroT Try.prog 31 [.int .i64 0, .int .i64 0, .slice none 0 0, .slice none 0 0] := ⟨⟨_, Try.zeroValue31, rfl⟩, rfl⟩
theorem agg33 : AggT Try.prog 33 5 := ⟨Try.isAgg33, Try.sizeOf33⟩
theorem f33_0 : FieldT Try.prog 33 0 0 := ⟨⟨_, _, 0, Try.underlying33, rfl, rfl, Try.sizeOf27⟩⟩
theorem f33_1 : FieldT Try.prog 33 1 1 := ⟨⟨_, _, 3, Try.underlying33, rfl, rfl, Try.sizeOf31⟩⟩
theorem pl33 : PlacesT Try.prog 33 [(0, 1), (1, 4)] := ⟨⟨_, Try.underlying33, fun w => by kernel_rfl⟩⟩
theorem zero33 : ZeroT Try.prog 33 [.slice none 0 0, .int .i64 0, .int .i64 0, .slice none 0 0, .slice none 0 0] := ⟨⟨_, Try.zeroValue33, rfl⟩, rfl⟩
theorem one34 : OneT Try.prog 34 := ⟨Try.isAgg34, Try.sizeOf34⟩
theorem sl34 : SliceT Try.prog 34 74 7 := ⟨Try.underlying34, Try.sizeOf74⟩
theorem app34 : AppT Try.prog 34 74 7 120 := ⟨by decide, Try.underlying34, Try.sizeOf74, ⟨Try.t74, _, by kernel_rfl, rfl, rfl, rfl, rfl⟩⟩
theorem agg36 : AggT Try.prog 36 6 := ⟨Try.isAgg36, Try.sizeOf36⟩
theorem f36_0 : FieldT Try.prog 36 0 0 := ⟨⟨_, _, 4, Try.underlying36, rfl, rfl, Try.sizeOf33⟩⟩
theorem f36_1 : FieldT Try.prog 36 1 5 := ⟨⟨_, _, 0, Try.underlying36, rfl, rfl, Try.sizeOf34⟩⟩
theorem pl36 : PlacesT Try.prog 36 [(0, 5), (5, 1)] := ⟨⟨_, Try.underlying36, fun w => by kernel_rfl⟩⟩
theorem zero36 : ZeroT Try.prog 36 [.slice none 0 0, .int .i64 0, .int .i64 0, .slice none 0 0, .slice none 0 0, .slice none 0 0] := ⟨⟨_, Try.zeroValue36, rfl⟩, rfl⟩
theorem agg38 : AggT Try.prog 38 4 := ⟨Try.isAgg38, Try.sizeOf38⟩
theorem f38_0 : FieldT Try.prog 38 0 0 := ⟨⟨_, _, 0, Try.underlying38, rfl, rfl, Try.sizeOf3⟩⟩
theorem f38_1 : FieldT Try.prog 38 1 1 := ⟨⟨_, _, 0, Try.underlying38, rfl, rfl, Try.sizeOf3⟩⟩
theorem f38_2 : FieldT Try.prog 38 2 2 := ⟨⟨_, _, 0, Try.underlying38, rfl, rfl, Try.sizeOf3⟩⟩
theorem f38_3 : FieldT Try.prog 38 3 3 := ⟨⟨_, _, 0, Try.underlying38, rfl, rfl, Try.sizeOf3⟩⟩
theorem pl38 : PlacesT Try.prog 38 [(0, 1), (1, 1), (2, 1), (3, 1)] := ⟨⟨_, Try.underlying38, fun w => by kernel_rfl⟩⟩
theorem eq38 : EqT Try.prog 38 4 := ⟨Try.eqGuardType38, by
  intro w xs ys h1 h2
  match xs, ys, h1, h2 with
  | [a0, a1, a2, a3], [b0, b1, b2, b3], _, _ =>
    simp only [List.map_cons, List.map_nil]
    go_simp
    repeat' split
    all_goals simp_all⟩
theorem zero38 : ZeroT Try.prog 38 [.int .i64 0, .int .i64 0, .int .i64 0, .int .i64 0] := ⟨⟨_, Try.zeroValue38, rfl⟩, rfl⟩
theorem agg40 : AggT Try.prog 40 6 := ⟨Try.isAgg40, Try.sizeOf40⟩
theorem f40_2 : FieldT Try.prog 40 2 2 := ⟨⟨_, _, 3, Try.underlying40, rfl, rfl, Try.sizeOf38⟩⟩
theorem pl40 : PlacesT Try.prog 40 [(0, 1), (1, 1), (2, 4)] := ⟨⟨_, Try.underlying40, fun w => by kernel_rfl⟩⟩
theorem eq40 : EqT Try.prog 40 6 := ⟨Try.eqGuardType40, by
  intro w xs ys h1 h2
  match xs, ys, h1, h2 with
  | [a0, a1, a2, a3, a4, a5], [b0, b1, b2, b3, b4, b5], _, _ =>
    simp only [List.map_cons, List.map_nil]
    go_simp
    repeat' split
    all_goals simp_all⟩
theorem zero40 : ZeroT Try.prog 40 [.int .i64 0, .int .i64 0, .int .i64 0, .int .i64 0, .int .i64 0, .int .i64 0] := ⟨⟨_, Try.zeroValue40, rfl⟩, rfl⟩
theorem sl44 : SliceT Try.prog 44 51 2 := ⟨Try.underlying44, Try.sizeOf51⟩
theorem app44 : AppT Try.prog 44 51 2 16 := ⟨by decide, Try.underlying44, Try.sizeOf51, ⟨Try.t51, _, by kernel_rfl, rfl, rfl, rfl, rfl⟩⟩
theorem agg51 : AggT Try.prog 51 2 := ⟨Try.isAgg51, Try.sizeOf51⟩
theorem f51_0 : FieldT Try.prog 51 0 0 := ⟨⟨_, _, 0, Try.underlying51, rfl, rfl, Try.sizeOf3⟩⟩
theorem f51_1 : FieldT Try.prog 51 1 1 := ⟨⟨_, _, 0, Try.underlying51, rfl, rfl, Try.sizeOf3⟩⟩
theorem pl51 : PlacesT Try.prog 51 [(0, 1), (1, 1)] := ⟨⟨_, Try.underlying51, fun w => by kernel_rfl⟩⟩
theorem eq51 : EqT Try.prog 51 2 := ⟨Try.eqGuardType51, by
  intro w xs ys h1 h2
  match xs, ys, h1, h2 with
  | [a0, a1], [b0, b1], _, _ =>
    simp only [List.map_cons, List.map_nil]
    go_simp
    repeat' split
    all_goals simp_all⟩
theorem key51 : KeyT Try.prog 51 isPair := KeyT.pair Try.underlying51 (fun em a b w => by kernel_rfl) (fun w a b c d => by
  have := eq51.eq w [a, b] [c, d] rfl rfl
  simpa [pairV, Op.equal, Op.maxDepth] using this)
theorem zero51 : ZeroT Try.prog 51 [.int .i64 0, .int .i64 0] := ⟨⟨_, Try.zeroValue51, rfl⟩, rfl⟩
theorem sl71 : SliceT Try.prog 71 38 4 := ⟨Try.underlying71, Try.sizeOf38⟩
theorem app71 : AppT Try.prog 71 38 4 32 := ⟨by decide, Try.underlying71, Try.sizeOf38, ⟨Try.t38, _, by kernel_rfl, rfl, rfl, rfl, rfl⟩⟩
theorem one72 : OneT Try.prog 72 := ⟨Try.isAgg72, Try.sizeOf72⟩
theorem sl72 : SliceT Try.prog 72 115 11 := ⟨Try.underlying72, Try.sizeOf115⟩
theorem app72 : AppT Try.prog 72 115 11 176 := ⟨by decide, Try.underlying72, Try.sizeOf115, ⟨Try.t115, _, by kernel_rfl, rfl, rfl, rfl, rfl⟩⟩
theorem agg74 : AggT Try.prog 74 7 := ⟨Try.isAgg74, Try.sizeOf74⟩
theorem f74_0 : FieldT Try.prog 74 0 0 := ⟨⟨_, _, 0, Try.underlying74, rfl, rfl, Try.sizeOf3⟩⟩
theorem f74_1 : FieldT Try.prog 74 1 1 := ⟨⟨_, _, 4, Try.underlying74, rfl, rfl, Try.sizeOf33⟩⟩
theorem f74_2 : FieldT Try.prog 74 2 6 := ⟨⟨_, _, 0, Try.underlying74, rfl, rfl, Try.sizeOf72⟩⟩
theorem pl74 : PlacesT Try.prog 74 [(0, 1), (1, 5), (6, 1)] := ⟨⟨_, Try.underlying74, fun w => by kernel_rfl⟩⟩
theorem zero74 : ZeroT Try.prog 74 [.int .i64 0, .slice none 0 0, .int .i64 0, .int .i64 0, .slice none 0 0, .slice none 0 0, .slice none 0 0] := ⟨⟨_, Try.zeroValue74, rfl⟩, rfl⟩
theorem agg77 : AggT Try.prog 77 2 := ⟨Try.isAgg77, Try.sizeOf77⟩
theorem f77_0 : FieldT Try.prog 77 0 0 := ⟨⟨_, _, 0, Try.underlying77, rfl, rfl, Try.sizeOf3⟩⟩
theorem f77_1 : FieldT Try.prog 77 1 1 := ⟨⟨_, _, 0, Try.underlying77, rfl, rfl, Try.sizeOf3⟩⟩
theorem pl77 : PlacesT Try.prog 77 [(0, 1), (1, 1)] := ⟨⟨_, Try.underlying77, fun w => by kernel_rfl⟩⟩
theorem eq77 : EqT Try.prog 77 2 := ⟨Try.eqGuardType77, by
  intro w xs ys h1 h2
  match xs, ys, h1, h2 with
  | [a0, a1], [b0, b1], _, _ =>
    simp only [List.map_cons, List.map_nil]
    go_simp
    repeat' split
    all_goals simp_all⟩
theorem zero77 : ZeroT Try.prog 77 [.int .i64 0, .int .i64 0] := ⟨⟨_, Try.zeroValue77, rfl⟩, rfl⟩
theorem one78 : OneT Try.prog 78 := ⟨Try.isAgg78, Try.sizeOf78⟩
theorem app78 : AppT Try.prog 78 44 1 24 := ⟨by decide, Try.underlying78, Try.sizeOf44, ⟨Try.t44, _, by kernel_rfl, rfl, rfl, rfl, rfl⟩⟩
theorem agg81 : AggT Try.prog 81 3 := ⟨Try.isAgg81, Try.sizeOf81⟩
theorem f81_0 : FieldT Try.prog 81 0 0 := ⟨⟨_, _, 0, Try.underlying81, rfl, rfl, Try.sizeOf78⟩⟩
theorem fv81_1 : FieldV Try.prog 81 1 1 25 := ⟨⟨_, _, Try.underlying81, rfl, rfl, rfl⟩⟩
theorem f81_1 : FieldT Try.prog 81 1 1 := ⟨⟨_, _, 0, Try.underlying81, rfl, rfl, Try.sizeOf25⟩⟩
theorem f81_2 : FieldT Try.prog 81 2 2 := ⟨⟨_, _, 0, Try.underlying81, rfl, rfl, Try.sizeOf79⟩⟩
theorem pl81 : PlacesT Try.prog 81 [(0, 1), (1, 1), (2, 1)] := ⟨⟨_, Try.underlying81, fun w => by kernel_rfl⟩⟩
theorem zero81 : ZeroT Try.prog 81 [.slice none 0 0, .slice none 0 0, .map none] := ⟨⟨_, Try.zeroValue81, rfl⟩, rfl⟩
theorem pa90 : ArrT Try.prog 90 2 3 1 := ⟨Try.underlying90, Try.sizeOf3⟩
theorem key90 : KeyT Try.prog 90 isPair := KeyT.pair Try.underlying90 (fun em a b w => by kernel_rfl) (equal_array2 Try.underlying90 Try.underlying3 Try.sizeOf3 Try.isAgg3)
theorem zero90 : ZeroT Try.prog 90 [.int .i64 0, .int .i64 0] := ⟨⟨_, Try.zeroValue90, rfl⟩, rfl⟩
theorem agg111 : AggT Try.prog 111 2 := ⟨Try.isAgg111, Try.sizeOf111⟩
theorem eq111 : EqT Try.prog 111 2 := ⟨Try.eqGuardType111, by
  intro w xs ys h1 h2
  match xs, ys, h1, h2 with
  | [a0, a1], [b0, b1], _, _ =>
    simp only [List.map_cons, List.map_nil]
    go_simp
    repeat' split
    all_goals simp_all⟩
theorem agg113 : AggT Try.prog 113 4 := ⟨Try.isAgg113, Try.sizeOf113⟩
theorem eqm113 : EqM Try.prog 113 [true, true, true, false] := ⟨Try.eqGuardType113, by
  intro w xs ys h1 h2
  match xs, ys, h1, h2 with
  | [.i a0, .i a1, .i a2, .b a3], [.i b0, .i b1, .i b2, .b b3], _, _ =>
    simp only [List.map_cons, List.map_nil, MV.v]
    go_simp
    repeat' split
    all_goals simp_all⟩
theorem agg115 : AggT Try.prog 115 11 := ⟨Try.isAgg115, Try.sizeOf115⟩
theorem f115_0 : FieldT Try.prog 115 0 0 := ⟨⟨_, _, 0, Try.underlying115, rfl, rfl, Try.sizeOf3⟩⟩
theorem f115_2 : FieldT Try.prog 115 2 2 := ⟨⟨_, _, 0, Try.underlying115, rfl, rfl, Try.sizeOf3⟩⟩
theorem f115_3 : FieldT Try.prog 115 3 3 := ⟨⟨_, _, 0, Try.underlying115, rfl, rfl, Try.sizeOf9⟩⟩
theorem f115_4 : FieldT Try.prog 115 4 4 := ⟨⟨_, _, 4, Try.underlying115, rfl, rfl, Try.sizeOf33⟩⟩
theorem f115_5 : FieldT Try.prog 115 5 9 := ⟨⟨_, _, 0, Try.underlying115, rfl, rfl, Try.sizeOf72⟩⟩
theorem f115_6 : FieldT Try.prog 115 6 10 := ⟨⟨_, _, 0, Try.underlying115, rfl, rfl, Try.sizeOf22⟩⟩
theorem zero115 : ZeroT Try.prog 115 [.int .i64 0, .int .i64 0, .int .i64 0, .string ⟨#[]⟩, .slice none 0 0, .int .i64 0, .int .i64 0, .slice none 0 0, .slice none 0 0, .slice none 0 0, .slice none 0 0] := ⟨⟨_, Try.zeroValue115, rfl⟩, rfl⟩
theorem agg124 : AggT Try.prog 124 6 := ⟨Try.isAgg124, Try.sizeOf124⟩
theorem f124_0 : FieldT Try.prog 124 0 0 := ⟨⟨_, _, 0, Try.underlying124, rfl, rfl, Try.sizeOf3⟩⟩
theorem f124_4 : FieldT Try.prog 124 4 4 := ⟨⟨_, _, 0, Try.underlying124, rfl, rfl, Try.sizeOf3⟩⟩
theorem pl124 : PlacesT Try.prog 124 [(0, 1), (1, 1), (2, 1), (3, 1), (4, 1), (5, 1)] := ⟨⟨_, Try.underlying124, fun w => by kernel_rfl⟩⟩
theorem zero124 : ZeroT Try.prog 124 [.int .i64 0, .int .i64 0, .int .i64 0, .int .i64 0, .int .i64 0, .string ⟨#[]⟩] := ⟨⟨_, Try.zeroValue124, rfl⟩, rfl⟩
theorem sl136 : SliceT Try.prog 136 124 6 := ⟨Try.underlying136, Try.sizeOf124⟩
theorem app136 : AppT Try.prog 136 124 6 56 := ⟨by decide, Try.underlying136, Try.sizeOf124, ⟨Try.t124, _, by kernel_rfl, rfl, rfl, rfl, rfl⟩⟩
theorem one79 : OneT Try.prog 79 := ⟨Try.isAgg79, Try.sizeOf79⟩
theorem map79 : MapT Try.prog 79 90 3 (.int .i64 0) isPair := ⟨Try.underlying79, Try.zeroValue3, key90⟩
theorem map103 : MapT Try.prog 103 51 3 (.int .i64 0) isPair := ⟨Try.underlying103, Try.zeroValue3, key51⟩
end Ty
end Go.Ob
