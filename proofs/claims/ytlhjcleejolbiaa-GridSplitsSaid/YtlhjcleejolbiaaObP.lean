/- Calls that write what the caller owns; ranges over functions. -/
import Derived.Test.YtlhjcleejolbiaaObO
set_option linter.unusedVariables false
set_option linter.unusedSimpArgs false
set_option linter.unusedSectionVars false
namespace Go.Ob
open Go.RowKit

inductive SplitR : Hp → Hp → Hp → Prop where
  | nil : SplitR [] [] []
  | left {b : Blk} {A B C : Hp} : SplitR A B C → SplitR (b :: A) (b :: B) C
  | right {b : Blk} {A B C : Hp} : SplitR A B C → SplitR (b :: A) B (b :: C)
theorem SplitR.all : ∀ (A : Hp), SplitR A A []
  | [] => .nil
  | _ :: A => .left (SplitR.all A)
theorem SplitR.none : ∀ (A : Hp), SplitR A [] A
  | [] => .nil
  | _ :: A => .right (SplitR.none A)
theorem SplitR.app : ∀ (A B : Hp), SplitR (A ++ B) A B
  | [], B => SplitR.none B
  | _ :: A, B => .left (SplitR.app A B)
theorem SplitR.spec {A B C : Hp} (h : SplitR A B C) : B.Sublist A ∧ C.Sublist A ∧ ∀ b, b ∈ A ↔ b ∈ B ∨ b ∈ C := by
  induction h with
  | nil => exact ⟨.slnil, .slnil, fun b => by simp⟩
  | left _ ih => exact ⟨ih.1.cons_cons _, ih.2.1.cons _, fun b => by simp [ih.2.2 b, or_assoc]⟩
  | right _ ih => exact ⟨ih.1.cons _, ih.2.1.cons_cons _, fun b => by simp [ih.2.2 b]; constructor <;> (rintro (h | h | h) <;> simp [h])⟩
theorem SplitR.apart {A B C : Hp} (h : SplitR A B C) (hp : A.Pairwise (fun b b' => ∀ g, b.blk = some g → b'.blk ≠ some g)) : ∀ b ∈ B, ∀ c ∈ C, ∀ g, b.blk = some g → c.blk ≠ some g := by
  induction h with
  | nil => intro b hb; cases hb
  | left hs ih =>
    obtain ⟨h1, h2⟩ := List.pairwise_cons.1 hp
    intro b hb c hc g hg
    rcases List.mem_cons.1 hb with rfl | hb
    · exact h1 c ((hs.spec.2.2 c).2 (.inr hc)) g hg
    · exact ih h2 b hb c hc g hg
  | right hs ih =>
    obtain ⟨h1, h2⟩ := List.pairwise_cons.1 hp
    intro b hb c hc g hg
    rcases List.mem_cons.1 hc with rfl | hc
    · exact fun hcg => h1 b ((hs.spec.2.2 b).2 (.inl hb)) g hcg hg
    · exact ih h2 b hb c hc g hg
theorem SplitR.own {A B C : Hp} (h : SplitR A B C) (g : Nat) : own A g ↔ own B g ∨ own C g := by
  constructor
  · rintro ⟨b, hb, hg⟩
    rcases (h.spec.2.2 b).1 hb with hb | hb
    · exact .inl ⟨b, hb, hg⟩
    · exact .inr ⟨b, hb, hg⟩
  · rintro (⟨b, hb, hg⟩ | ⟨b, hb, hg⟩)
    · exact ⟨b, (h.spec.2.2 b).2 (.inl hb), hg⟩
    · exact ⟨b, (h.spec.2.2 b).2 (.inr hb), hg⟩
theorem own_append {A B : Hp} (g : Nat) : own (A ++ B) g ↔ own A g ∨ own B g := (SplitR.app A B).own g

section
variable {K : Ctx} {Q : Exit → Env → Hp → Prop} {env : Env} {H H1 H2 H1' : Hp} {ops : Array Oper} {rest : List Oper} {dst : Option Nat} {ty : TypeId} {pos : String} {af : Array Edge}

/-- What is not handed to a callee stays. -/
theorem HeapOK.frame {F : Nat → Prop} {w w' : World} (h : HeapOK w (both F H) H) (hs : SplitR H H1 H2) (hh : HeapOK w' (both (both F H2) H1') H1') (k : Kept (own H1) w w')
    (hf : ∀ g, own H1' g → own H1 g ∨ w.heap.size ≤ g) : HeapOK w' (both F (H1' ++ H2)) (H1' ++ H2) := by
  have hset : ∀ g, both F (H1' ++ H2) g → both (both F H2) H1' g := fun g hg => by
    rcases hg with h | h
    · exact .inl (.inl h)
    · rcases (own_append g).1 h with h | h
      · exact .inr h
      · exact .inl (.inr h)
  have hold : ∀ g, g < w.heap.size → both F (H1' ++ H2) g → both F H g := fun g hlt hg => by
    rcases hset g hg with (h | h) | h
    · exact .inl h
    · exact .inr ((hs.own g).2 (.inr h))
    · rcases hf g h with h | h
      · exact .inr ((hs.own g).2 (.inl h))
      · omega
  refine ⟨fun b hb => ?_, ?_⟩
  · rcases List.mem_append.1 hb with hb | hb
    · exact Blk.ok_fewer (hh.each b hb) hset
    · have hbo := h.each b (hs.spec.2.1.subset hb)
      refine Blk.ok_mono hbo (fun g hg => k.block g (Blk.blk_lt hbo hg) fun ho => ?_) (fun d u hr => hr.kept k (fun g _ hg => .inr ((hs.own g).2 (.inl hg))) hold)
      obtain ⟨b1, hb1, hg1⟩ := ho
      exact hs.apart h.apart b1 hb1 b hb g hg1 hg
  · rw [List.pairwise_append]
    refine ⟨hh.apart, h.apart.sublist hs.spec.2.1, fun b hb c hc g hg => ?_⟩
    rcases hf g ⟨b, hb, hg⟩ with ⟨b1, hb1, hg1⟩ | hge
    · exact hs.apart h.apart b1 hb1 c hc g hg1
    · intro hcg
      have := Blk.blk_lt (h.each c (hs.spec.2.1.subset hc)) hcg
      omega
theorem Sat.frame {a : Act} {w w' : World} (h : Sat K env H a w) (hs : SplitR H H1 H2) (hh : HeapOK w' (both (both K.F H2) H1') H1') (k : Kept (own H1) w w')
    (hf : ∀ g, own H1' g → own H1 g ∨ w.heap.size ≤ g) : Sat K env (H1' ++ H2) a w' :=
  h.step (k.mono fun g _ hg => (hs.own g).2 (.inl hg)) (fun g hg => by
    rcases (own_append g).1 hg with h1 | h1
    · exact (hf g h1).imp (fun h2 => (hs.own g).2 (.inl h2)) id
    · exact .inl ((hs.own g).2 (.inr h1))) (h.heap.frame hs hh k hf)
/-- The part that is handed over, seen by the callee. -/
theorem HeapOK.part {F : Nat → Prop} {w : World} (h : HeapOK w (both F H) H) (hs : SplitR H H1 H2) : HeapOK w (both (both F H2) H1) H1 :=
  h.sub hs.spec.1 (fun g hg => by
    rcases hg with (h | h) | h
    · exact .inl h
    · exact .inr ((hs.own g).2 (.inr h))
    · exact .inr ((hs.own g).2 (.inl h)))
theorem part_F {P : Program} {F : Nat → Prop} {w : World} (h : HeapOK w (both F H) H) (hs : SplitR H H1 H2) (hF : Foreign P F w (own H)) : Foreign P (both F H2) w (own H1) := ⟨fun g hg => by
  rcases hg with hg | hg
  · exact ⟨(hF g hg).1, fun ho => (hF g hg).2 ((hs.own g).2 (.inl ho))⟩
  · refine ⟨own_lt h ((hs.own g).2 (.inr hg)), fun ho => ?_⟩
    obtain ⟨b1, hb1, hg1⟩ := ho
    obtain ⟨b2, hb2, hg2⟩ := hg
    exact hs.apart h.apart b1 hb1 b2 hb2 g hg1 hg2, hF.glob.less fun g hg => (hs.own g).2 (.inl hg)⟩
theorem part_set {F : Nat → Prop} (hs : SplitR H H1 H2) {g : Nat} (hg : both (both F H2) H1 g) : both F H g := by
  rcases hg with (h | h) | h
  · exact .inl h
  · exact .inr ((hs.own g).2 (.inr h))
  · exact .inr ((hs.own g).2 (.inl h))

/-- A call of a function that may write what is handed to it. -/
theorem TL.callD {f : FuncId} {args : Array Operand} {ts : Array TypeId} {ds : List D} {R : D → Hp → Prop} (hs : SplitR H H1 H2) (hf : CallD K.P f ds H1 R) (ha : ArgsD env args.toList ds)
    (hc : ∀ (as0 : Array Value) (w : World), (callFunc f as0).run K.P w = .ok (.enter f as0) w) (hd : ∀ t, dst = some t → t < K.n)
    (h : ∀ r H', R r H' → TL K ops rest Q (env.putO dst (some r)) (H' ++ H2)) :
    TL K ops (⟨dst, .call { callee := .value (.func f), args := args, argTypes := ts }, ty, pos, af, none⟩ :: rest) Q env H := fun a w hsat => by
  unfold wpListIn
  rw [if_pos (by rfl)]
  obtain ⟨hl, hr⟩ := ha.rep (w := w) (o := both K.F H) (ρ := a.eval) fun x hxm => fun dx hx => hsat.eval hx
  have hcall := hf w (both K.F H2) (args.toList.map a.eval) hl (fun j d u hd hu => (hr j d u hd hu).fewer fun g => part_set hs) (hsat.heap.part hs) (part_F hsat.heap hs hsat.F_lt)
  have hrun : (execOp a.eval ⟨dst, .call { callee := .value (.func f), args := args, argTypes := ts }, ty, pos, af, none⟩).run K.P w = .ok (.enter f (args.toList.map a.eval).toArray) w := by
    have e3 : (List.map a.eval args.toList).toArray = Array.map a.eval args := by rw [← List.map_toArray]
    simp [execOp, resolve, Deferred.ofValue, Act.eval, invoke, hc, e3]
  refine wpIn_ok (fun _ h => by cases h) hrun ⟨fen_shallow, calls_fen (hcall.mono ?_)⟩
  rintro e w' ⟨v, r, H', rfl, hR, hrep, hh, hk, hfr⟩
  have hs' := hsat.frame hs hh hk hfr
  refine h r H' hR _ _ (hs'.put (Kept.refl _ _) hd fun d hd' => ?_)
  cases hd'
  exact hrep.fewer fun g hg => by
    rcases hg with h | h
    · exact .inl (.inl h)
    · rcases (own_append g).1 h with h | h
      · exact .inr h
      · exact .inl (.inr h)

/-! ### the iterator's side -/
/-- A call of yield: what the round makes of the caller's heap. w1: the world in which the iterator was entered; S1: what was owned then; F1: what was foreign. -/
def YieldD (P : Program) (l : Nat) (xs : List D) (H : Hp) (R : Bool → Hp → Prop) (w1 : World) (S1 F1 : Nat → Prop) : Prop :=
  ∀ (w : World) (F : Nat → Prop) (vs : List Value), Kept S1 w1 w → (∀ g, F1 g → F g) → (∀ g, F g → F1 g ∨ S1 g ∨ w1.heap.size ≤ g) → (∀ g, own H g → S1 g ∨ w1.heap.size ≤ g) →
    vs.length = xs.length → (∀ (j : Nat) (d : D) (u : Value), xs[j]? = some d → vs[j]? = some u → Rep w (both F H) d u) → HeapOK w (both F H) H → Foreign P F w (own H) →
    ∃ rc : Loop, w.heap[l]? = some (.loop rc) ∧ vs.length = rc.params.size ∧
      RoundIn Fence.wide 0 P l rc.fn ((rc.params.zip vs.toArray).foldl (fun tmps (t, a) => tmps.setIfInBounds t a) rc.tmps) rc.assign rc.body w fun e w' =>
        ∃ b H', e = .returned (.bool b) ∧ R b H' ∧ HeapOK w' (both F H') H' ∧ Kept (own H) w w' ∧ ∀ g, own H' g → own H g ∨ w.heap.size ≤ g

theorem TL.yield {l : Nat} {fo : Operand} {args : Array Operand} {ts : Array TypeId} {ds : List D} {R : Bool → Hp → Prop} (hr0 : K.r = none) (hs : SplitR H H1 H2) (hfo : opD env fo = some (.v (.func (.yield l) #[] #[])))
    (hy : YieldD K.P l ds H1 R K.w0 K.S K.F) (ha : ArgsD env args.toList ds) (hd : ∀ t, dst = some t → t < K.n)
    (h : ∀ b H', R b H' → TL K ops rest Q (env.putO dst (some (.v (.bool b)))) (H' ++ H2)) :
    TL K ops (⟨dst, .call { callee := .value fo, args := args, argTypes := ts }, ty, pos, af, none⟩ :: rest) Q env H := fun a w hsat => by
  unfold wpListIn
  rw [if_pos (by rfl)]
  obtain ⟨hl, hr⟩ := ha.rep (w := w) (o := both K.F H) (ρ := a.eval) fun x hxm => fun dx hx => hsat.eval hx
  obtain ⟨rc, hrc, hps, hround⟩ := hy w (both K.F H2) (args.toList.map a.eval) hsat.kept (fun g hg => .inl hg) (fun g hg => by
      rcases hg with hg | hg
      · exact .inl hg
      · exact .inr (hsat.fresh g ((hs.own g).2 (.inr hg)))) (fun g hg => hsat.fresh g ((hs.own g).2 (.inl hg))) hl
    (fun j d u hd hu => (hr j d u hd hu).fewer fun g => part_set hs) (hsat.heap.part hs) (part_F hsat.heap hs hsat.F_lt)
  have hfo' := Rep.of_v (hsat.eval hfo)
  have e3 : (List.map a.eval args.toList).toArray = Array.map a.eval args := by rw [← List.map_toArray]
  have hrun : (execOp a.eval ⟨dst, .call { callee := .value fo, args := args, argTypes := ts }, ty, pos, af, none⟩).run K.P w = .ok (.round l rc.fn ((rc.params.zip (args.toList.map a.eval).toArray).foldl (fun tmps (t, a) => tmps.setIfInBounds t a) rc.tmps) rc.assign rc.body) w := by
    have := run_yield (P := K.P) (args := Array.map a.eval args) hrc (by rw [← hps]; simp)
    rw [e3]
    simp [execOp, resolve, Deferred.ofValue, hfo', invoke, this]
  have hfen : fen K.r = Fence.wide := by rw [hr0]; rfl
  refine wpIn_ok (fun _ h => by cases h) hrun ⟨fen_shallow, ?_⟩
  rw [hfen]
  refine RoundIn.mono hround ?_
  rintro e w' ⟨b, H', rfl, hR, hh, hk, hfr⟩
  have hs' := hsat.frame hs hh hk hfr
  have := h b H' hR _ _ (hs'.put (dst := dst) (od := some (.v (.bool b))) (v := .bool b) (Kept.refl _ _) hd fun d hd' => by cases hd'; exact .v _)
  rw [hfen] at this
  exact this

/-- An iterator, that yields the rows of data xs one after another while it is told to go on: whatever the rounds make of the caller's heap. -/
def SeqD (P : Program) (f : FuncId) (caps : List D) (xs : List (List D)) : Prop :=
  ∀ (l : Nat) (J Jx : Nat → Hp → Prop) (w1 : World) (F1 : Nat → Prop) (H0 : Hp) (vs : List Value), vs.length = caps.length →
    (∀ (j : Nat) (d : D) (u : Value), caps[j]? = some d → vs[j]? = some u → Rep w1 (both F1 H0) d u) → HeapOK w1 (both F1 H0) H0 → Foreign P F1 w1 (own H0) → J 0 H0 →
    (∀ k x H, xs[k]? = some x → J k H → YieldD P l x H (fun b H' => if b = true then J (k + 1) H' else Jx (k + 1) H') w1 (own H0) F1) →
    Calls P f (.func (.yield l) #[] #[] :: vs).toArray w1 fun e w' => ∃ v H', e = .returned v ∧ (J xs.length H' ∨ ∃ k, Jx k H') ∧ HeapOK w' (both F1 H') H' ∧ Kept (own H0) w1 w' ∧ ∀ g, own H' g → own H0 g ∨ w1.heap.size ≤ g

def Env.puts (env : Env) : List Nat → List D → Env
  | t :: ts, d :: ds => Env.puts (env.put t (some d)) ts ds
  | _, _ => env

theorem puts_tmps {w : World} {o : Nat → Prop} : ∀ (ps : List Nat) (ds : List D) (vs : List Value) (env : Env) (tmps : Array Value), vs.length = ds.length → ps.length = ds.length → (∀ p ∈ ps, p < tmps.size) →
    (∀ t d, env t = some d → ∃ u, tmps[t]? = some u ∧ Rep w o d u) → (∀ (j : Nat) (d : D) (u : Value), ds[j]? = some d → vs[j]? = some u → Rep w o d u) →
    (∀ t d, (env.puts ps ds) t = some d → ∃ u, ((ps.zip vs).foldl (fun tmps (t, a) => tmps.setIfInBounds t a) tmps)[t]? = some u ∧ Rep w o d u) ∧ ((ps.zip vs).foldl (fun tmps (t, a) => tmps.setIfInBounds t a) tmps).size = tmps.size
  | [], [], [], env, tmps, _, _, _, h, _ => ⟨by simpa [Env.puts] using h, rfl⟩
  | p :: ps, d :: ds, v :: vs, env, tmps, h1, h2, hp, h, hr => by
    have ih := puts_tmps ps ds vs (env.put p (some d)) (tmps.setIfInBounds p v) (by simpa using h1) (by simpa using h2) (fun q hq => by simpa using hp q (by simp [hq])) (fun t d' hd' => by
      rcases Env.put_some hd' with ⟨rfl, e⟩ | ⟨hne, e⟩
      · cases e
        exact ⟨v, by simp [hp t (by simp)], hr 0 _ _ rfl rfl⟩
      · obtain ⟨u, hu, hu2⟩ := h t d' e
        exact ⟨u, by rw [Array.getElem?_setIfInBounds_ne (Ne.symm hne)]; exact hu, hu2⟩) (fun j d' u hd' hu => hr (j + 1) d' u (by simpa using hd') (by simpa using hu))
    exact ⟨by simpa [Env.puts] using ih.1, by simpa using ih.2⟩
  | [], [], _ :: _, _, _, h, _, _, _, _ => by simp at h
  | [], _ :: _, _, _, _, _, h, _, _, _ => by simp at h
  | _ :: _, [], _, _, _, _, h, _, _, _ => by simp at h
  | _ :: _, _ :: _, [], _, _, h, _, _, _, _ => by simp at h

/-- The same state, reckoned from a later world, in which foreign blocks may have turned. -/
theorem Sat.rebase {a : Act} {w w' : World} (h : Sat K env H a w) (k : Kept K.F w w') (hG : GlobOK K.P w' (own H)) (hrn : K.r ≠ none) : Sat ⟨K.P, K.n, w', K.F, own H, K.r⟩ env H a w' := by
  have hrep : ∀ d u, Rep w (both K.F H) d u → Rep w' (both K.F H) d u := fun d u hr => hr.kept k (fun _ _ hf => .inl hf) (fun _ _ h => h)
  refine ⟨fun t d ht => let ⟨u, hu, hr⟩ := h.tmps t d ht; ⟨u, hu, hrep d u hr⟩, h.size, by rw [h.defers.inRound hrn]; exact .nil _ _ _, ⟨fun b hb => ?_, h.heap.apart⟩, Kept.refl _ _, fun g hg => .inl hg, ⟨fun g hg => ⟨Nat.lt_of_lt_of_le (h.F_lt g hg).1 k.size, (h.F_lt g hg).2⟩, hG⟩⟩
  exact Blk.ok_mono (h.heap.each b hb) (fun g hg => k.block g (Blk.blk_lt (h.heap.each b hb) hg) (fun hf => (h.F_lt g hf).2 ⟨b, hb, hg⟩)) hrep

def jumpOf : Exit → Option Code
  | .ret => some .ret
  | .exit id => some (.exit id)
  | _ => none

/-- Behind a round's body. -/
def roundA (Jn : Hp → Prop) (Jx : Exit → Hp → Prop) : Exit → Env → Hp → Prop
  | .normal, _, H => Jn H
  | .ret, _, H => Jx .ret H
  | .exit id, _, H => Jx (.exit id) H
  | _, _, _ => False

/-- **A range over a function.** J k: the caller's heap when k rounds are over; Jx: a round has left by a jump. -/
theorem TC.rangeFunc {g : Operand} {ps : Array Tmp} {assign body : Code} {f : FuncId} {caps : List D} {xs : List (List D)} (hr0 : K.r = none) (hg : opD env g = some (.fn f caps))
    (hc : ∀ (as0 : Array Value) (w : World), (callFunc f as0).run K.P w = .ok (.enter f as0) w) (hseq : SeqD K.P f caps xs) (J : Nat → Hp → Prop) (Jx : Exit → Hp → Prop) (h0 : J 0 H)
    (hxs : ∀ x ∈ xs, x.length = ps.size) (hps : ps.toList.all (fun p => Nat.blt p K.n) = true)
    (hround : ∀ (k : Nat) (x : List D) (Hc : Hp) (w : World) (F S : Nat → Prop) (l : Nat), xs[k]? = some x → J k Hc → TC ⟨K.P, K.n, w, F, S, some l⟩ assign (fun e env' H' => e = .normal ∧ ∀ (w : World) (F S : Nat → Prop), TC ⟨K.P, K.n, w, F, S, some l⟩ body (roundA (J (k + 1)) Jx) env' H') (env.puts ps.toList x) Hc)
    (hdone : ∀ Hc, J xs.length Hc → Q .normal env Hc) (hret : ∀ Hc, Jx .ret Hc → Q .ret env Hc) (hexit : ∀ id Hc, Jx (.exit id) Hc → Q (.exit id) env Hc) :
    TC K (.rangeFunc g ps assign body) Q env H := fun a w hs => by
  have hfen : fen K.r = Fence.wide := by rw [hr0]; rfl
  obtain ⟨vs, hev, hvl, hvr⟩ : ∃ vs : Array Value, a.eval g = .func (.func f) #[] vs ∧ vs.size = caps.length ∧ ∀ (j : Nat) (d : D) (u : Value), caps[j]? = some d → vs[j]? = some u → Rep w (both K.F H) d u := by
    have hre := hs.eval hg
    generalize a.eval g = u at hre
    cases hre with
    | fn _ _ vs h1 h2 => exact ⟨vs, rfl, h1, h2⟩
  rw [hfen]
  refine wpIn_rangeFunc fun fn _ => ?_
  obtain ⟨rc, hrc⟩ : ∃ rc : LoopState → Option Code → Loop, rc = fun st pe => { state := st, pending := pe, fn, tmps := a.tmps, params := ps, assign, body, defers := w.heap.size } := ⟨_, rfl⟩
  obtain ⟨W1, hW1⟩ : ∃ W1, (w.alloc (.deferred (some []))).alloc (.loop (rc .ready none)) = W1 := ⟨_, rfl⟩
  obtain ⟨l, hl⟩ : ∃ l, l = w.heap.size + 1 := ⟨_, rfl⟩
  have hL1 : W1.heap[l]? = some (.loop (rc .ready none)) := by
    rw [← hW1, hl]; have := World.alloc_heap_new (w.alloc (.deferred (some []))) (.loop (rc .ready none)); rwa [World.size_alloc] at this
  have hK1 : W1.heap[w.heap.size]? = some (.deferred (some [])) := by
    rw [← hW1]; exact (Below.heap_alloc _ _ _ (by simp)).trans (World.alloc_heap_new w _)
  have hk1 : Kept no w W1 := by rw [← hW1]; exact (Kept.alloc _ _ _).trans (Kept.alloc _ _ _)
  have hsz1 : W1.heap.size = w.heap.size + 2 := by rw [← hW1]; simp
  have hob : ∀ rc' : Loop, ∀ W : World, W.heap[l]? = some (.loop rc') → ∀ o, (Blk.obj l (.loop rc')).ok W o := fun rc' W h o => ⟨by simp, h⟩
  have howl : ∀ {ob : Obj} {Hc : Hp} {x : Nat}, own (.obj l ob :: Hc) x ↔ x = l ∨ own Hc x := fun {ob Hc x} => by
    constructor
    · rintro ⟨b, hb, hx⟩
      rcases List.mem_cons.1 hb with rfl | hb
      · exact .inl (by simpa [Blk.blk] using hx.symm)
      · exact .inr ⟨b, hb, hx⟩
    · rintro (rfl | ⟨b, hb, hx⟩)
      · exact ⟨_, List.mem_cons_self, rfl⟩
      · exact ⟨b, List.mem_cons_of_mem _ hb, hx⟩
  have hlH : ¬ own H l := fun ho => by have := own_lt hs.heap ho; omega
  have hlF : ¬ K.F l := fun hf => by have := (hs.F_lt l hf).1; omega
  -- the heap that is handed to the iterator: the record, and all that the caller owns
  have hheap1 : HeapOK W1 (both K.F (.obj l (.loop (rc .ready none)) :: H)) (.obj l (.loop (rc .ready none)) :: H) := by
    have hset : ∀ b, b < w.heap.size → both K.F (.obj l (.loop (rc .ready none)) :: H) b → both K.F H b := fun b hb hx => hx.imp id fun hx => by
      rcases howl.1 hx with h | h
      · omega
      · exact h
    refine ⟨fun b hb => ?_, List.pairwise_cons.2 ⟨fun b hb x hx hbx => ?_, hs.heap.apart⟩⟩
    · rcases List.mem_cons.1 hb with rfl | hb
      · exact hob _ _ hL1 _
      · exact Blk.ok_mono (hs.heap.each b hb) (fun x hx => hk1.block x (Blk.blk_lt (hs.heap.each b hb) hx) id) (fun d u hr => hr.kept hk1 (fun _ _ hf => hf.elim) hset)
    · have : x = l := by simpa [Blk.blk] using hx.symm
      exact hlH (this ▸ ⟨b, hb, hbx⟩)
  have hvr1 : ∀ (j : Nat) (d : D) (u : Value), caps[j]? = some d → vs.toList[j]? = some u → Rep W1 (both K.F (.obj l (.loop (rc .ready none)) :: H)) d u := fun j d u hd hu =>
    (hvr j d u hd (by simpa using hu)).kept hk1 (fun _ _ hf => hf.elim) (fun b hb hx => hx.imp id fun hx => by
      rcases howl.1 hx with h | h
      · omega
      · exact h)
  refine ⟨l, [{ target := .collected w.heap.size, args := #[] }], W1, { target := .fn (.func f) vs, args := #[.func (.yield l) #[] #[]] }, W1, f, #[.func (.yield l) #[] #[]] ++ vs, W1, ?_, ?_, fun _ _ => trivial, ?_, (fun h => (by cases h)), ?_⟩
  · rw [hl, ← hW1, hrc]; exact run_enterLoop_outer _ _ _ _ _
  · simp only [resolve, hev]
    simp [go_sem]
  · simp [invoke, go_sem, hc]
  have harr : #[Value.func (.yield l) #[] #[]] ++ vs = (Value.func (.yield l) #[] #[] :: vs.toList).toArray := by
    apply Array.ext'; simp
  rw [harr]
  refine callsIn_wide.2 ((hseq l (fun k H' => ∃ Hc, H' = .obj l (.loop (rc .ready none)) :: Hc ∧ J k Hc) (fun _ H' => ∃ e c Hc, jumpOf e = some c ∧ H' = .obj l (.loop (rc .done (some c))) :: Hc ∧ Jx e Hc)
    W1 K.F (.obj l (.loop (rc .ready none)) :: H) vs.toList (by simpa using hvl) hvr1 hheap1 ⟨fun g hg => ⟨Nat.lt_of_lt_of_le (hs.F_lt g hg).1 hk1.size, fun ho => by
      rcases howl.1 ho with h | h
      · exact hlF (h ▸ hg)
      · exact (hs.F_lt g hg).2 h⟩, hs.F_lt.glob.move hk1 (fun _ h => h.elim) fun g hg => by
      rcases howl.1 hg with h | h
      · exact .inr (by omega)
      · exact .inl h⟩ ⟨H, rfl, h0⟩ ?_).mono ?_)
  · -- one round
    rintro k x H' hx ⟨Hc, rfl, hJ⟩ W F us hkW hF1 hF2 hown hul hur hhp hFl
    have hrl : W.heap[l]? = some (.loop (rc .ready none)) := (hhp.each _ List.mem_cons_self).2
    have hlt : l < W.heap.size := (Array.getElem?_eq_some_iff.1 hrl).1
    have hxl := hxs x (List.mem_of_getElem? hx)
    refine ⟨rc .ready none, hrl, by rw [hrc, hul, hxl], ?_⟩
    have hlHc : ¬ own Hc l := fun ⟨b, hb, hbl⟩ => (List.pairwise_cons.1 hhp.apart).1 b hb l rfl hbl
    have hFl' : Foreign K.P F W (own Hc) := ⟨fun g hg => ⟨(hFl g hg).1, fun ho => (hFl g hg).2 (howl.2 (.inr ho))⟩, hFl.glob.less fun g hg => howl.2 (.inr hg)⟩
    -- the round's frame
    let K1 : Ctx := ⟨K.P, K.n, W, fun g => F g ∨ g = l, own Hc, some l⟩
    have hset1 : ∀ g, both K1.F Hc g → both F (.obj l (.loop (rc .ready none)) :: Hc) g := fun g hg => by
      rcases hg with (h | h) | h
      · exact .inl h
      · exact .inr (howl.2 (.inl h))
      · exact .inr (howl.2 (.inr h))
    have hkwW : Kept (own H) w W := ⟨hkW.os.trans hk1.os, hkW.tape.trans hk1.tape, hkW.output.trans hk1.output, Nat.le_trans hk1.size hkW.size, fun b hb hn => by
      rw [hkW.block b (Nat.lt_of_lt_of_le hb hk1.size) (fun ho => by
        rcases howl.1 ho with h | h
        · omega
        · exact hn h)]
      exact hk1.block b hb id⟩
    have hback : ∀ b, b < w.heap.size → both K1.F Hc b → both K.F H b := fun b hb hg => by
      have key : own (.obj l (.loop (rc .ready none)) :: H) b → both K.F H b := fun ho => by
        rcases howl.1 ho with h | h
        · omega
        · exact .inr h
      rcases hg with (h | h) | h
      · rcases hF2 b h with h | h | h
        · exact .inl h
        · exact key h
        · omega
      · omega
      · rcases hown b (howl.2 (.inr h)) with h | h
        · exact key h
        · omega
    have henv : ∀ t d, env t = some d → ∃ u, a.tmps[t]? = some u ∧ Rep W (both K1.F Hc) d u := fun t d ht => by
      obtain ⟨u, hu, hr⟩ := hs.tmps t d ht
      exact ⟨u, hu, hr.kept hkwW (fun _ _ h => .inr h) hback⟩
    obtain ⟨htm, htz⟩ := puts_tmps (w := W) (o := both K1.F Hc) ps.toList x us env a.tmps hul (by simpa using hxl.symm) (fun p hp => by
        have := List.all_eq_true.1 hps p hp
        rw [hs.size]; simpa [Nat.blt_eq] using this) henv (fun j d u hd hu => (hur j d u hd hu).mono (Nat.le_refl _) (fun _ _ _ => rfl) (fun b _ hg => by
      rcases hg with (h | h) | h
      · exact .inl h
      · exact .inr (howl.2 (.inl h))
      · exact .inr (howl.2 (.inr h))))
    obtain ⟨rt, hrt⟩ : ∃ rt, rt = ((ps.toList.zip us).foldl (fun tmps (t, a) => tmps.setIfInBounds t a) a.tmps) := ⟨_, rfl⟩
    rw [← hrt] at htm htz
    have hrt' : ((rc .ready none).params.zip us.toArray).foldl (fun tmps (t, a) => tmps.setIfInBounds t a) (rc .ready none).tmps = rt := by
      rw [hrt, hrc, ← Array.foldl_toList, Array.toList_zip]
    have hsat1 : Sat K1 (env.puts ps.toList x) Hc { tmps := rt, defers := [] } W := by
      refine ⟨htm, by rw [htz]; exact hs.size, .nil _ _ _, ⟨fun b hb => Blk.ok_fewer (hhp.each b (List.mem_cons_of_mem _ hb)) hset1, (List.pairwise_cons.1 hhp.apart).2⟩, Kept.refl _ _, fun g hg => .inl hg, ⟨fun g hg => ?_, hFl'.glob⟩⟩
      rcases hg with h | rfl
      · exact hFl' g h
      · exact ⟨hlt, hlHc⟩
    rw [hrt', show (rc .ready none).fn = fn by rw [hrc], show (rc .ready none).assign = assign by rw [hrc], show (rc .ready none).body = body by rw [hrc]]
    refine roundIn_of_wpIn trivial (wpIn_mono (hround k x Hc W K1.F K1.S l hx hJ _ _ hsat1) ?_)
    rintro e a1 W2 ⟨env2, H2, hs2, rfl, hbody⟩
    have hl2 : W2.heap[l]? = some (.loop (rc .ready none)) := by rw [hs2.kept.block l hlt hlHc]; exact hrl
    have hk23 : Kept K1.F W2 (W2.putObj l (.loop { rc .ready none with state := .busy })) := ⟨rfl, rfl, rfl, by rw [World.putObj_size]; exact Nat.le_refl _, fun b hb hn => World.putObj_heap_other (fun e => hn (.inr e))⟩
    obtain ⟨W3, hW3⟩ : ∃ W3, W3 = W2.putObj l (.loop { rc .ready none with state := .busy }) := ⟨_, rfl⟩
    rw [← hW3] at hk23
    have hG3 : GlobOK K.P W3 (own H2) := hs2.F_lt.glob.move (T := fun g => g = l) ⟨hk23.os, hk23.tape, hk23.output, hk23.size, fun b hb hn => by rw [hW3]; exact World.putObj_heap_other hn⟩ (fun g e => .inr ⟨_, e ▸ hl2⟩) (fun g h => .inl h)
    have hs3 := hs2.rebase hk23 hG3 (by simp)
    refine ⟨W3, by rw [hW3]; exact run_beginRound hl2 (by rw [hrc]), wpIn_mono (hbody W3 K1.F (own H2) _ _ hs3) ?_⟩
    have hl3 : W3.heap[l]? = some (.loop { rc .ready none with state := .busy }) := by rw [hW3]; exact World.putObj_heap_same (Array.getElem?_eq_some_iff.1 hl2).1
    -- what the round leaves
    have fin : ∀ (a4 : Act) (W4 : World) (env4 : Env) (H4 : Hp) (st : LoopState) (pe : Option Code), Sat ⟨K.P, K.n, W3, K1.F, own H2, some l⟩ env4 H4 a4 W4 →
        HeapOK (W4.putObj l (.loop (rc st pe))) (both F (.obj l (.loop (rc st pe)) :: H4)) (.obj l (.loop (rc st pe)) :: H4) ∧ Kept (own (.obj l (.loop (rc .ready none)) :: Hc)) W (W4.putObj l (.loop (rc st pe))) ∧
          (∀ g, own (.obj l (.loop (rc st pe)) :: H4) g → own (.obj l (.loop (rc .ready none)) :: Hc) g ∨ W.heap.size ≤ g) := fun a4 W4 env4 H4 st pe hs4 => by
      have hlt4 : l < W4.heap.size := (hs4.F_lt l (.inr rfl)).1
      have hl4 : ¬ own H4 l := (hs4.F_lt l (.inr rfl)).2
      have hk45 : Kept K1.F W4 (W4.putObj l (.loop (rc st pe))) := ⟨rfl, rfl, rfl, by rw [World.putObj_size]; exact Nat.le_refl _, fun b hb hn => World.putObj_heap_other (fun e => hn (.inr e))⟩
      have hset4 : ∀ g, both F (.obj l (.loop (rc st pe)) :: H4) g → both K1.F H4 g := fun g hg => by
        rcases hg with h | h
        · exact .inl (.inl h)
        · rcases howl.1 h with h | h
          · exact .inl (.inr h)
          · exact .inr h
      have hl4w : W4.heap[l]? = some (.loop { rc .ready none with state := .busy }) := by rw [hs4.kept.block l (hs3.F_lt l (.inr rfl)).1 (fun ho => (hs3.F_lt l (.inr rfl)).2 ho)]; exact hl3
      have hG5 : GlobOK K.P (W4.putObj l (.loop (rc st pe))) (own H4) := hs4.F_lt.glob.move (T := fun g => g = l) ⟨hk45.os, hk45.tape, hk45.output, hk45.size, fun b hb hn => World.putObj_heap_other hn⟩ (fun g e => .inr ⟨_, e ▸ hl4w⟩) (fun g h => .inl h)
      have hs5 := hs4.rebase hk45 hG5 (by simp)
      have hfresh4 : ∀ g, own H4 g → own Hc g ∨ W.heap.size ≤ g := fun g hg => by
        rcases hs4.fresh g hg with h | h
        · rcases hs2.fresh g h with h | h
          · exact .inl h
          · exact .inr h
        · exact .inr (Nat.le_trans hs2.kept.size (Nat.le_trans hk23.size h))
      refine ⟨⟨fun b hb => ?_, List.pairwise_cons.2 ⟨fun b hb x hx hbx => ?_, hs4.heap.apart⟩⟩, ⟨?_, ?_, ?_, ?_, fun b hb hn => ?_⟩, fun g hg => ?_⟩
      · rcases List.mem_cons.1 hb with rfl | hb
        · exact hob _ _ (World.putObj_heap_same hlt4) _
        · exact Blk.ok_fewer (hs5.heap.each b hb) hset4
      · have : x = l := by simpa [Blk.blk] using hx.symm
        exact hl4 (this ▸ ⟨b, hb, hbx⟩)
      · exact hk45.os.trans (hs4.kept.os.trans (hk23.os.trans hs2.kept.os))
      · exact hk45.tape.trans (hs4.kept.tape.trans (hk23.tape.trans hs2.kept.tape))
      · exact hk45.output.trans (hs4.kept.output.trans (hk23.output.trans hs2.kept.output))
      · exact Nat.le_trans hs2.kept.size (Nat.le_trans hk23.size (Nat.le_trans hs4.kept.size hk45.size))
      · have hbl : b ≠ l := fun e => hn (howl.2 (.inl e))
        have hbc : ¬ own Hc b := fun e => hn (howl.2 (.inr e))
        rw [World.putObj_heap_other hbl, hs4.kept.block b (Nat.lt_of_lt_of_le hb (Nat.le_trans hs2.kept.size hk23.size)) (fun ho => ?_), hW3, World.putObj_heap_other hbl, hs2.kept.block b hb hbc]
        rcases hs2.fresh b ho with h | h
        · exact hbc h
        · have : W.heap.size ≤ b := h
          omega
      · rcases howl.1 hg with h | h
        · exact .inl (howl.2 (.inl h))
        · exact (hfresh4 g h).imp (fun h => howl.2 (.inr h)) id
    rintro e4 a4 W4 ⟨env4, H4, hs4, hq4⟩
    have hl4 : W4.heap[l]? = some (.loop { rc .ready none with state := .busy }) := by rw [hs4.kept.block l (hs3.F_lt l (.inr rfl)).1 (fun ho => (hs3.F_lt l (.inr rfl)).2 ho)]; exact hl3
    cases e4 with
    | normal =>
      refine ⟨_, _, run_endRound none hl4, true, .obj l (.loop (rc .ready none)) :: H4, rfl, ?_, ?_⟩
      · simp only [if_true]; exact ⟨H4, rfl, hq4⟩
      · have := fin a4 W4 env4 H4 .ready none hs4
        simpa [hrc] using this
    | ret =>
      refine ⟨_, _, run_endRound (some .ret) hl4, false, .obj l (.loop (rc .done (some .ret))) :: H4, rfl, ?_, ?_⟩
      · simp only [Bool.false_eq_true, if_false]; exact ⟨.ret, .ret, H4, rfl, rfl, hq4⟩
      · have := fin a4 W4 env4 H4 .done (some .ret) hs4
        simpa [hrc] using this
    | exit id =>
      refine ⟨_, _, run_endRound (some (.exit id)) hl4, false, .obj l (.loop (rc .done (some (.exit id)))) :: H4, rfl, ?_, ?_⟩
      · simp only [Bool.false_eq_true, if_false]; exact ⟨.exit id, .exit id, H4, rfl, rfl, hq4⟩
      · have := fin a4 W4 env4 H4 .done (some (.exit id)) hs4
        simpa [hrc] using this
    | goto t => exact hq4.elim
    | panic c => exact hq4.elim
    | outgrown => exact hq4.elim
  · -- behind the loop
    rintro e W' ⟨v, H', rfl, hJ, hhp, hkW, hfr⟩
    have main : ∀ (st : LoopState) (pe : Option Code) (Hc : Hp), st ≠ .busy → H' = .obj l (.loop (rc st pe)) :: Hc →
        ∃ w4, (Instr.endLoop l).run K.P W' = .ok pe w4 ∧ Sat K env Hc { tmps := a.tmps, defers := [{ target := Target.collected w.heap.size, args := #[] }] ++ a.defers } w4 := fun st pe Hc hst hH => by
      subst hH
      have hrl : W'.heap[l]? = some (.loop (rc st pe)) := (hhp.each _ List.mem_cons_self).2
      have hlt : l < W'.heap.size := (Array.getElem?_eq_some_iff.1 hrl).1
      have hlHc : ¬ own Hc l := fun ⟨b, hb, hbl⟩ => (List.pairwise_cons.1 hhp.apart).1 b hb l rfl hbl
      obtain ⟨w4, hw4⟩ : ∃ w4, w4 = W'.putObj l (.loop { rc st pe with state := .exhausted }) := ⟨_, rfl⟩
      have hk4 : Kept (· = l) W' w4 := by rw [hw4]; exact ⟨rfl, rfl, rfl, by rw [World.putObj_size]; exact Nat.le_refl _, fun b hb hn => World.putObj_heap_other hn⟩
      have he := run_endLoop (P := K.P) hrl (by rw [hrc]; exact hst)
      refine ⟨w4, by rw [hw4]; simpa [hrc] using he, ?_⟩
      have hkw : Kept (own H) w W' := ⟨hkW.os.trans hk1.os, hkW.tape.trans hk1.tape, hkW.output.trans hk1.output, Nat.le_trans hk1.size hkW.size, fun b hb hn => by
        rw [hkW.block b (Nat.lt_of_lt_of_le hb hk1.size) (fun ho => by
          rcases howl.1 ho with h | h
          · omega
          · exact hn h)]
        exact hk1.block b hb id⟩
      have hkw4 : Kept (own H) w w4 := ⟨hk4.os.trans hkw.os, hk4.tape.trans hkw.tape, hk4.output.trans hkw.output, Nat.le_trans hkw.size hk4.size, fun b hb hn => by
        rw [hk4.block b (Nat.lt_of_lt_of_le hb hkw.size) (fun e => by omega)]; exact hkw.block b hb hn⟩
      have hown : ∀ g, own Hc g → own H g ∨ w.heap.size ≤ g := fun g hg => by
        rcases hfr g (howl.2 (.inr hg)) with h | h
        · rcases howl.1 h with h | h
          · exact .inr (by omega)
          · exact .inl h
        · exact .inr (by omega)
      have hheap : HeapOK w4 (both K.F Hc) Hc := by
        refine ⟨fun b hb => ?_, (List.pairwise_cons.1 hhp.apart).2⟩
        have hbo := hhp.each b (List.mem_cons_of_mem _ hb)
        refine Blk.ok_mono hbo (fun g hg => hk4.block g (Blk.blk_lt hbo hg) (fun e => hlHc (e ▸ ⟨b, hb, hg⟩))) (fun d u hr => hr.kept hk4 (fun _ _ e => .inr (howl.2 (.inl e))) (fun g _ hg => hg.imp id fun h => howl.2 (.inr h)))
      refine ⟨fun t d ht => ?_, hs.size, ⟨fun h => absurd hr0 h, fun d hd => ?_, ?_⟩, hheap, ?_, fun g hg => ?_, hs.foreign⟩
      · obtain ⟨u, hu, hr⟩ := hs.tmps t d ht
        exact ⟨u, hu, hr.kept hkw4 (fun _ _ h => .inr h) (fun b hb hg => hg.imp id fun h => by
          rcases hown b h with h | h
          · exact h
          · omega)⟩
      · rcases List.mem_append.1 hd with hd | hd
        · rw [List.mem_singleton] at hd
          subst hd
          refine ⟨w.heap.size, hs.kept.size, rfl, ?_⟩
          rw [hk4.block _ (by have := hkW.size; omega) (fun e => by omega), hkW.block _ (by omega) (fun ho => own_no_mark hheap1 ho hK1)]
          exact hK1
        · obtain ⟨g, hB, ht, hg⟩ := hs.defers.each d hd
          have hglt : g < w.heap.size := (Array.getElem?_eq_some_iff.1 hg).1
          exact ⟨g, hB, ht, by rw [hkw4.block g hglt (fun ho => own_no_mark hs.heap ho hg)]; exact hg⟩
      · rw [List.singleton_append]
        refine List.pairwise_cons.2 ⟨fun d hd g hg hdg => ?_, hs.defers.apart⟩
        obtain ⟨g', _, ht', hg'⟩ := hs.defers.each d hd
        have hglt : g' < w.heap.size := (Array.getElem?_eq_some_iff.1 hg').1
        have e1 : w.heap.size = g := by simpa using hg
        rw [ht'] at hdg
        have e2 : g' = g := by simpa using hdg
        omega
      · exact ⟨hkw4.os.trans hs.kept.os, hkw4.tape.trans hs.kept.tape, hkw4.output.trans hs.kept.output, Nat.le_trans hs.kept.size hkw4.size, fun b hb hn => by
          rw [hkw4.block b (Nat.lt_of_lt_of_le hb hs.kept.size) (fun ho => by
            rcases hs.fresh b ho with h | h
            · exact hn h
            · omega)]
          exact hs.kept.block b hb hn⟩
      · rcases hown g hg with h | h
        · exact hs.fresh g h
        · exact .inr (Nat.le_trans hs.kept.size h)
    unfold rangePost
    rcases hJ with ⟨Hc, hH, hJn⟩ | ⟨k, e, c, Hc, hjc, hH, hJx⟩
    · obtain ⟨w4, he, hs4⟩ := main .ready none Hc (by simp) hH
      exact ⟨none, w4, he, env, Hc, hs4, hdone Hc hJn⟩
    · obtain ⟨w4, he, hs4⟩ := main .done (some c) Hc (by simp) hH
      refine ⟨some c, w4, he, ?_⟩
      cases e with
      | ret => cases hjc; exact wpIn_ret ⟨env, Hc, hs4, hret Hc hJx⟩
      | exit id => cases hjc; exact wpIn_exit ⟨env, Hc, hs4, hexit id Hc hJx⟩
      | _ => cases hjc

end
theorem SeqD.enter {P : Program} {f n : Nat} {fn : Func} {c : Code} {caps : List D} {xs : List (List D)} (hf : P.funcs[f]? = some fn) (hb : fn.body = some c) (hn : fn.ntmps = n) (hr : fn.results = #[]) (hl : Nat.ble (caps.length + 1) n = true)
    (h : ∀ (l : Nat) (J Jx : Nat → Hp → Prop) (w : World) (F : Nat → Prop) (H0 : Hp), J 0 H0 → (∀ k x H, xs[k]? = some x → J k H → YieldD P l x H (fun b H' => if b = true then J (k + 1) H' else Jx (k + 1) H') w (own H0) F) →
      TC ⟨P, n, w, F, own H0, none⟩ c (RetA P #[] (fun _ H' => J xs.length H' ∨ ∃ k, Jx k H')) (Env.args 0 (.v (.func (.yield l) #[] #[]) :: caps)) H0) : SeqD P f caps xs := by
  subst hn
  intro l J Jx w1 F1 H0 vs hvl hv hh hF h0 hy
  have hb' : caps.length + 1 ≤ fn.ntmps := Nat.le_of_ble_eq_true hl
  refine (calls_of_body (ds := .v (.func (.yield l) #[] #[]) :: caps) hf hb (by simpa using hb') (hr ▸ h l J Jx w1 F1 H0 h0 hy) (by simp [hvl]) (fun j d u hd hu => ?_) hh hF).mono ?_
  · match j with
    | 0 => simp at hd hu; subst hd; subst hu; exact .v _
    | j + 1 => exact hv j d u (by simpa using hd) (by simpa using hu)
  · rintro e w' ⟨v, r, H', rfl, hR, _, h1, h2, h3⟩
    exact ⟨v, H', rfl, hR, h1, h2, h3⟩

end Go.Ob
