/- Operations that make or write memory of the call's own; entering and leaving a function. -/
import Derived.Test.YtlhjcleejolbiaaObD
import Derived.Laws.Rows
import Derived.Laws.CopyRow
import Derived.Laws.AppendOwn
import Derived.Maps.AppendAt
set_option linter.unusedVariables false
set_option linter.unusedSimpArgs false
set_option linter.unusedSectionVars false
namespace Go.Ob
open Go.RowKit

def D.one : D → Bool
  | .v x => x.oneCell'
  | .agg _ => false
  | .tup _ => false
  | _ => true

theorem Rep.one {w : World} {o : Nat → Prop} {d : D} {u : Value} (h : Rep w o d u) (h1 : d.one = true) : u.oneCell' = true := by
  cases h <;> first | exact h1 | rfl | (simp [D.one] at h1)

/-- The cells of a value: of a struct its parts, of all else itself. -/
inductive CellsD : D → List D → Prop where
  | agg (ds : List D) : CellsD (.agg ds) ds
  | one {d : D} : d.one = true → CellsD d [d]

theorem CellsD.rep {d : D} {ds : List D} (h : CellsD d ds) {w : World} {o : Nat → Prop} {u : Value} (hr : Rep w o d u) :
    u.cells.size = ds.length ∧ ∀ (j : Nat) (d' : D) (u' : Value), ds[j]? = some d' → u.cells[j]? = some u' → u'.oneCell' = true ∧ Rep w o d' u' := by
  cases h with
  | agg =>
    cases hr with
    | agg _ vs hs h1 hj => exact ⟨hs, fun j d' u' hd hu => ⟨h1 j u' hu, hj j d' u' hd hu⟩⟩
  | one h1 =>
    have ho := hr.one h1
    have hc : u.cells = #[u] := by cases u <;> first | rfl | (simp [Value.oneCell'] at ho)
    rw [hc]
    refine ⟨rfl, fun j d' u' hd hu => ?_⟩
    cases j with
    | zero =>
      have e1 : d = d' := by simpa using hd
      have e2 : u = u' := by simpa using hu
      subst e1; subst e2
      exact ⟨ho, hr⟩
    | succ j => simp at hd

/-- ds laid over cs from place n on. -/
inductive PutR : Nat → List D → List D → List D → Prop where
  | nil (cs : List D) : PutR 0 [] cs cs
  | here {d c : D} {ds cs cs' : List D} : PutR 0 ds cs cs' → PutR 0 (d :: ds) (c :: cs) (d :: cs')
  | skip {n : Nat} {c : D} {ds cs cs' : List D} : PutR n ds cs cs' → PutR (n + 1) ds (c :: cs) (c :: cs')

theorem PutR.spec {n : Nat} {ds cs cs' : List D} (h : PutR n ds cs cs') : n + ds.length ≤ cs.length ∧ cs' = cs.take n ++ ds ++ cs.drop (n + ds.length) := by
  induction h with
  | nil cs => simp
  | @here d c ds cs cs' _ ih =>
    obtain ⟨h1, h2⟩ := ih
    refine ⟨by simp at h1 ⊢; omega, ?_⟩
    simp only [Nat.zero_add, List.length_cons, List.take_zero, List.nil_append, List.drop_succ_cons, List.cons_append] at h2 ⊢
    rw [h2]
  | @skip n c ds cs cs' _ ih =>
    obtain ⟨h1, h2⟩ := ih
    refine ⟨by simp at h1 ⊢; omega, ?_⟩
    rw [Nat.add_right_comm]
    simp only [List.take_succ_cons, List.drop_succ_cons, List.cons_append]
    rw [h2]

/-- One block of the heap is another. -/
inductive UpdR (b b' : Blk) : Hp → Hp → Prop where
  | here (H : Hp) : UpdR b b' (b :: H) (b' :: H)
  | there (x : Blk) {H H' : Hp} : UpdR b b' H H' → UpdR b b' (x :: H) (x :: H')

theorem UpdR.mem {b b' : Blk} {H H' : Hp} (h : UpdR b b' H H') : b ∈ H := by induction h <;> simp [*]
theorem UpdR.mem' {b b' x : Blk} {H H' : Hp} (h : UpdR b b' H H') (hx : x ∈ H') : x = b' ∨ x ∈ H := by
  induction h with
  | here H => rcases List.mem_cons.1 hx with h | h
              · exact .inl h
              · exact .inr (by simp [h])
  | there y _ ih => rcases List.mem_cons.1 hx with h | h
                    · exact .inr (by simp [h])
                    · exact (ih h).imp id (fun h => by simp [h])

/-- The other blocks lie elsewhere. -/
theorem UpdR.other {b b' x : Blk} {H H' : Hp} (h : UpdR b b' H H') (hp : H.Pairwise (fun b b' => ∀ g, b.blk = some g → b'.blk ≠ some g)) (hx : x ∈ H') :
    x = b' ∨ (x ∈ H ∧ ∀ g, b.blk = some g → x.blk ≠ some g) := by
  induction h with
  | here H =>
    rcases List.mem_cons.1 hx with h | h
    · exact .inl h
    · exact .inr ⟨by simp [h], fun g hg => (List.pairwise_cons.1 hp).1 x h g hg⟩
  | there y hu ih =>
    rcases List.mem_cons.1 hx with h | h
    · refine .inr ⟨by simp [h], fun g hg hxg => ?_⟩
      subst h
      exact (List.pairwise_cons.1 hp).1 b hu.mem g hxg hg
    · exact (ih (List.pairwise_cons.1 hp).2 h).imp id (fun ⟨h1, h2⟩ => ⟨by simp [h1], h2⟩)

theorem UpdR.apart {b b' : Blk} {H H' : Hp} (h : UpdR b b' H H') (hp : H.Pairwise (fun b b' => ∀ g, b.blk = some g → b'.blk ≠ some g))
    (hn : ∀ x ∈ H, ∀ g, b'.blk = some g → x.blk = some g → b.blk = some g) : H'.Pairwise (fun b b' => ∀ g, b.blk = some g → b'.blk ≠ some g) := by
  induction h with
  | here H =>
    obtain ⟨h1, h2⟩ := List.pairwise_cons.1 hp
    refine List.pairwise_cons.2 ⟨fun x hx g hg hxg => ?_, h2⟩
    exact h1 x hx g (hn x (by simp [hx]) g hg hxg) hxg
  | @there y H H' hu ih =>
    obtain ⟨h1, h2⟩ := List.pairwise_cons.1 hp
    refine List.pairwise_cons.2 ⟨fun x hx g hg hxg => ?_, ih h2 fun x hx g hg hxg => hn x (by simp [hx]) g hg hxg⟩
    rcases hu.mem' hx with rfl | hx
    · exact h1 b hu.mem g hg (hn y (by simp) g hxg hg)
    · exact h1 x hx g hg hxg

theorem UpdR.own {b b' : Blk} {H H' : Hp} (h : UpdR b b' H H') {g : Nat} (hg : own H' g) : own H g ∨ b'.blk = some g := by
  obtain ⟨x, hx, hxg⟩ := hg
  rcases h.mem' hx with rfl | hx
  · exact .inr hxg
  · exact .inl ⟨x, hx, hxg⟩

section
variable {K : Ctx} {Q : Exit → Env → Hp → Prop} {env : Env} {H H' : Hp}

/-- A step that writes what is owned, or makes new blocks. -/
theorem Sat.step {a : Act} {w w' : World} (h : Sat K env H a w) (k : Kept (own H) w w') (ho : ∀ g, own H' g → own H g ∨ w.heap.size ≤ g)
    (hh : HeapOK w' (both K.F H') H') : Sat K env H' a w' := by
  refine ⟨fun t d ht => ?_, h.size, h.marks k (fun _ hg => hg), hh, ?_, fun g hg => ?_, h.foreign⟩
  · obtain ⟨u, hu, hr⟩ := h.tmps t d ht
    refine ⟨u, hu, hr.kept k (fun b _ hb => .inr hb) (fun b hb hx => hx.elim .inl fun hx => ?_)⟩
    rcases ho b hx with h | h
    · exact .inr h
    · omega
  · exact ⟨k.os.trans h.kept.os, k.tape.trans h.kept.tape, k.output.trans h.kept.output, Nat.le_trans h.kept.size k.size, fun b hb hs => by
      rw [k.block b (Nat.lt_of_lt_of_le hb h.kept.size) (fun ho => by
        rcases h.fresh b ho with h1 | h1
        · exact hs h1
        · omega)]
      exact h.kept.block b hb hs⟩
  · rcases ho g hg with h1 | h1
    · exact h.fresh g h1
    · exact .inr (Nat.le_trans h.kept.size h1)

/-- A new block beside the old ones. -/
theorem HeapOK.push {w w' : World} {F : Nat → Prop} {b : Blk} (hh : HeapOK w (both F H) H) (hF : ∀ g, F g → g < w.heap.size) (k : Kept no w w') (hb : ∀ g, b.blk = some g → w.heap.size ≤ g)
    (hok : b.ok w' (both F (b :: H))) : HeapOK w' (both F (b :: H)) (b :: H) := by
  have ho : ∀ g, g < w.heap.size → both F (b :: H) g → both F H g := by
    rintro g hlt (h | ⟨x, hx, hxg⟩)
    · exact .inl h
    · rcases List.mem_cons.1 hx with rfl | hx
      · have := hb g hxg; omega
      · exact .inr ⟨x, hx, hxg⟩
  refine ⟨fun x hx => ?_, List.pairwise_cons.2 ⟨fun x hx g hg hxg => ?_, hh.apart⟩⟩
  · rcases List.mem_cons.1 hx with rfl | hx
    · exact hok
    · exact Blk.ok_mono (hh.each x hx) (fun _ hg => k.block _ (Blk.blk_lt (hh.each x hx) hg) id) (fun _ _ hr => hr.kept k (fun _ _ hf => hf.elim) ho)
  · have := hb g hg
    have := Blk.blk_lt (hh.each x hx) hxg
    omega

theorem Sat.push {a : Act} {w w' : World} {b : Blk} (h : Sat K env H a w) (k : Kept no w w') (hb : ∀ g, b.blk = some g → w.heap.size ≤ g)
    (hok : b.ok w' (both K.F (b :: H))) : Sat K env (b :: H) a w' :=
  h.step (k.mono fun _ _ hf => hf.elim) (fun g ⟨x, hx, hxg⟩ => by
    rcases List.mem_cons.1 hx with rfl | hx
    · exact .inr (hb g hxg)
    · exact .inl ⟨x, hx, hxg⟩) (h.heap.push (fun g hg => (h.F_lt g hg).1) k hb hok)

/-- What meant something means it in the new world, a new block being owned besides. -/
theorem Sat.rep_push {a : Act} {w w' : World} {b : Blk} (h : Sat K env H a w) (k : Kept no w w') (hb : ∀ g, b.blk = some g → w.heap.size ≤ g) {d : D} {u : Value}
    (hr : Rep w (both K.F H) d u) : Rep w' (both K.F (b :: H)) d u :=
  hr.kept k (fun _ _ hf => hf.elim) fun g hlt hg => by
    rcases hg with hg | ⟨x, hx, hxg⟩
    · exact .inl hg
    · rcases List.mem_cons.1 hx with rfl | hx
      · have := hb g hxg; omega
      · exact .inr ⟨x, hx, hxg⟩

theorem Sat.dst {a : Act} {w : World} {t : Nat} {d : D} {v : Value} (h : Sat K env H a w) (ht : t < K.n) (hv : Rep w (both K.F H) d v) : Sat K (env.put t (some d)) H (a.put (some t) v) w :=
  h.put (dst := some t) (od := some d) (Kept.refl _ _) (fun t' e => by cases e; exact ht) (fun d' e => by cases e; exact hv)

structure ZeroT (P : Program) (t : Nat) (zs : List Value) : Prop where
  zero : ∃ z, (∀ w, (zeroValue t).run P w = .ok z w) ∧ z.cells = zs.toArray
  one : zs.all Value.oneCell' = true

theorem new_box {w : World} {o : Nat → Prop} {t : Nat} {vs : Array Value} {cs : List D} (hs : vs.size = cs.length)
    (hj : ∀ (j : Nat) (d : D) (u : Value), cs[j]? = some d → vs[j]? = some u → u.oneCell' = true ∧ Rep (w.alloc (.cells vs t)) o d u) : (Blk.box w.heap.size t cs).ok (w.alloc (.cells vs t)) o :=
  ⟨vs, heap_alloc_new w _, hs, hj⟩

variable {ops : Array Oper} {rest : List Oper} {t : Nat} {ty : TypeId} {pos : String} {af : Array Edge}

theorem TL.alloc {T : Nat} {zs : List Value} (hz : ZeroT K.P T zs) (hd : Nat.blt t K.n = true)
    (h : ∀ g, TL K ops rest Q (env.put t (some (.v (.pointer (some ⟨g, 0, none⟩))))) (.box g T (zs.map .v) :: H)) : TL K ops (⟨some t, .alloc T, ty, pos, af, none⟩ :: rest) Q env H := fun a w hs => by
  obtain ⟨z, hrun, hzc⟩ := hz.zero
  unfold wpListIn
  rw [if_pos (by rfl)]
  have e : (execOp a.eval ⟨some t, .alloc T, ty, pos, af, none⟩).run K.P w = .ok (.value (.pointer (some ⟨w.heap.size, 0, none⟩))) (w.alloc (.cells zs.toArray T)) := by
    simp [execOp, Instr.alloc, hrun, newVar, newRow, hzc]
  refine wpIn_ok (fun _ h => by cases h) e ?_
  refine h w.heap.size _ _ (Sat.dst (hs.push (Kept.alloc _ _ _) (fun g hg => by cases hg; exact Nat.le_refl _) (new_box (by simp) fun j d u hd hu => ?_)) (by simpa [Nat.blt_eq] using hd) (.v _))
  simp only [List.getElem?_map, Option.map_eq_some_iff] at hd
  obtain ⟨v, hv, rfl⟩ := hd
  have : v = u := by simpa [hv] using hu
  subst this
  exact ⟨List.all_eq_true.1 hz.one v (List.mem_of_getElem? hv), .v _⟩

theorem TL.box {T : Nat} {x : Operand} {d : D} {cs : List D} (hx : opD env x = some d) (hc : CellsD d cs) (hd : Nat.blt t K.n = true)
    (h : ∀ g, TL K ops rest Q (env.put t (some (.v (.pointer (some ⟨g, 0, none⟩))))) (.box g T cs :: H)) : TL K ops (⟨some t, .box T x, ty, pos, af, none⟩ :: rest) Q env H := fun a w hs => by
  unfold wpListIn
  rw [if_pos (by rfl)]
  have e : (execOp a.eval ⟨some t, .box T x, ty, pos, af, none⟩).run K.P w = .ok (.value (.pointer (some ⟨w.heap.size, 0, none⟩))) (w.alloc (.cells (a.eval x).cells T)) := by
    simp [execOp, Instr.box, newVar, newRow]
  refine wpIn_ok (fun _ h => by cases h) e ?_
  have hk : Kept no w (w.alloc (.cells (a.eval x).cells T)) := Kept.alloc _ _ _
  have hb : ∀ g, (Blk.box w.heap.size T cs).blk = some g → w.heap.size ≤ g := fun g hg => by cases hg; exact Nat.le_refl _
  obtain ⟨h1, h2⟩ := hc.rep (hs.rep_push hk hb (hs.eval hx))
  exact h w.heap.size _ _ (Sat.dst (hs.push hk hb (new_box h1 h2)) (by simpa [Nat.blt_eq] using hd) (.v _))

theorem own_blk {b : Blk} {g : Nat} (hm : b ∈ H) (hg : b.blk = some g) : own H g := ⟨b, hm, hg⟩

/-- One owned block is written. -/
theorem Sat.upd {a : Act} {w w' : World} {b b' : Blk} (h : Sat K env H a w) (hu : UpdR b b' H H') (hbb : ∀ g, b'.blk = some g → b.blk = some g ∨ w.heap.size ≤ g)
    (k : Kept (fun g => b.blk = some g) w w') (hok : b'.ok w' (both K.F H')) : Sat K env H' a w' := by
  have hown : ∀ g, own H' g → own H g ∨ w.heap.size ≤ g := fun g hg => by
    rcases hu.own hg with h1 | h1
    · exact .inl h1
    · exact (hbb g h1).imp (own_blk hu.mem) id
  refine h.step (k.mono fun g _ hg => own_blk hu.mem hg) hown ⟨fun x hx => ?_, hu.apart h.heap.apart fun x hx g hg hxg => ?_⟩
  · rcases hu.other h.heap.apart hx with rfl | ⟨hx, hne⟩
    · exact hok
    · refine Blk.ok_mono (h.heap.each x hx) (fun g hg => k.block g (Blk.blk_lt (h.heap.each x hx) hg) fun hb => hne g hb hg) (fun d u hr => ?_)
      refine hr.kept k (fun g _ hg => .inr (own_blk hu.mem hg)) (fun g hlt hg => hg.imp id fun hg => ?_)
      rcases hown g hg with h1 | h1
      · exact h1
      · omega
  · rcases hbb g hg with h1 | h1
    · exact h1
    · have := Blk.blk_lt (h.heap.each x hx) hxg
      omega

theorem Sat.rep_upd {a : Act} {w w' : World} {b b' : Blk} (h : Sat K env H a w) (hu : UpdR b b' H H') (hbb : ∀ g, b'.blk = some g → b.blk = some g ∨ w.heap.size ≤ g)
    (k : Kept (fun g => b.blk = some g) w w') {d : D} {u : Value} (hr : Rep w (both K.F H) d u) : Rep w' (both K.F H') d u :=
  hr.kept k (fun g _ hg => .inr (own_blk hu.mem hg)) (fun g hlt hg => hg.imp id fun hg => by
    rcases hu.own hg with h1 | h1
    · exact h1
    · rcases hbb g h1 with h2 | h2
      · exact own_blk hu.mem h2
      · omega)

theorem Kept.setRow (w : World) (g : Nat) (cs : Array Value) : Kept (fun x => some g = some x) w (w.setRow g cs) :=
  ⟨rfl, rfl, rfl, by simp [World.setRow], fun k _ hk => setRow_other w g k cs (fun e => hk (by rw [e]))⟩

theorem toList_getElem? {α : Type} (a : Array α) (i : Nat) : a.toList[i]? = a[i]? := by simp

/-- A store into a variable of the call's own. -/
theorem Sat.store_wp {T T' g o n : Nat} {x y : Operand} {d : D} {cs cs' ds : List D} (hx : opD env x = some (.v (.pointer (some ⟨g, o, none⟩)))) (hy : opD env y = some d) (hc : CellsD d ds)
    (hn : ∀ w, (sizeOf T).run K.P w = .ok n w) (hl : ds.length = n) (hu : UpdR (.box g T' cs) (.box g T' cs') H H') (hp : PutR o ds cs cs') {a : Act} {w : World} (hs : Sat K env H a w)
    {next : Act → World → Prop} {Q' : Exit → Act → World → Prop} (h : ∀ a' w', Sat K env H' a' w' → next a' w') : (⟨none, .store T x y, ty, pos, af, none⟩ : Oper).wpIn (fen K.r) 0 K.P a w next Q' := by
  have e1 := Rep.of_v (hs.eval hx)
  obtain ⟨h1, h2⟩ := hc.rep (hs.eval hy)
  obtain ⟨vs, hg, hvs, hj⟩ := ok_box hs.heap hu.mem
  obtain ⟨p1, p2⟩ := hp.spec
  have hlen : (a.eval y).cells.toList.length = ds.length := by rw [Array.length_toList]; exact h1
  have honce : ∀ u ∈ (a.eval y).cells.toList, u.oneCell' = true := fun u hu => by
    obtain ⟨j, hju⟩ := List.mem_iff_getElem?.1 hu
    have hlt : j < ds.length := by rw [← hlen]; exact (List.getElem?_eq_some_iff.1 hju).1
    exact (h2 j _ u (List.getElem?_eq_getElem hlt) (by rw [← toList_getElem?]; exact hju)).1
  have hst := run_storeCells_at (P := K.P) g o T' (a.eval y).cells.toList 0 vs w hg (by rw [hlen, hvs]; simpa using p1) honce
  have e : (execOp a.eval ⟨none, .store T x y, ty, pos, af, none⟩).run K.P w = .ok .skip (w.setRow g (vs.toList.take o ++ (a.eval y).cells.toList ++ vs.toList.drop (o + ds.length)).toArray) := by
    rw [hlen] at hst
    simp only [Nat.add_zero] at hst
    simp [execOp, Instr.storeAt, e1, Instr.sureAddr, storeVar, hn, h1, hl, hst]
  refine wpIn_ok (fun _ h => by cases h) e ?_
  have k := Kept.setRow w g (vs.toList.take o ++ (a.eval y).cells.toList ++ vs.toList.drop (o + ds.length)).toArray
  have hbb : ∀ g', (Blk.box g T' cs').blk = some g' → (Blk.box g T' cs).blk = some g' ∨ w.heap.size ≤ g' := fun g' hg' => .inl hg'
  have hrep : ∀ {d u}, Rep w (both K.F H) d u → Rep _ (both K.F H') d u := fun hr => hs.rep_upd hu hbb k hr
  refine h _ _ (Sat.upd (b := .box g T' cs) (b' := .box g T' cs') hs hu hbb k ⟨_, setRow_heap w g vs _ T' _ hg, ?_, fun j d' u' hd' hu' => ?_⟩)
  · have : (vs.toList.take o ++ (a.eval y).cells.toList ++ vs.toList.drop (o + ds.length)).length = cs'.length := by
      rw [p2]
      simp only [List.length_append, List.length_take, List.length_drop, Array.length_toList, h1, hvs]
    simpa using this
  · rw [p2] at hd'
    have hu'' : (vs.toList.take o ++ (a.eval y).cells.toList ++ vs.toList.drop (o + ds.length))[j]? = some u' := by simpa using hu'
    have ho : o ≤ vs.toList.length := by rw [Array.length_toList, hvs]; omega
    by_cases c1 : j < o
    · rw [List.append_assoc, List.getElem?_append_left (by rw [List.length_take]; omega), List.getElem?_take_of_lt c1] at hd' hu''
      obtain ⟨q1, q2⟩ := hj j d' u' hd' (by rw [← toList_getElem?]; exact hu'')
      exact ⟨q1, hrep q2⟩
    · by_cases c2 : j < o + ds.length
      · rw [List.append_assoc, List.getElem?_append_right (by rw [List.length_take]; omega), List.getElem?_append_left (by rw [List.length_take]; omega)] at hd'
        rw [List.append_assoc, List.getElem?_append_right (by rw [List.length_take]; omega), List.getElem?_append_left (by rw [List.length_take, hlen]; omega)] at hu''
        have e3 : min o cs.length = o := by omega
        have e4 : min o vs.toList.length = o := by omega
        rw [List.length_take, e3] at hd'
        rw [List.length_take, e4] at hu''
        obtain ⟨q1, q2⟩ := h2 _ d' u' hd' (by rw [← toList_getElem?]; exact hu'')
        exact ⟨q1, hrep q2⟩
      · have e3 : min o cs.length = o := by omega
        have e4 : min o vs.toList.length = o := by omega
        rw [List.getElem?_append_right (by simp only [List.length_append, List.length_take]; omega), List.getElem?_drop] at hd'
        rw [List.getElem?_append_right (by simp only [List.length_append, List.length_take, hlen]; omega), List.getElem?_drop] at hu''
        simp only [List.length_append, List.length_take, e3, e4, hlen] at hd' hu''
        obtain ⟨q1, q2⟩ := hj _ d' u' hd' (by rw [← toList_getElem?]; exact hu'')
        exact ⟨q1, hrep q2⟩

theorem TL.store {T T' g o n : Nat} {x y : Operand} {d : D} {cs cs' ds : List D} (hx : opD env x = some (.v (.pointer (some ⟨g, o, none⟩)))) (hy : opD env y = some d) (hc : CellsD d ds)
    (hn : ∀ w, (sizeOf T).run K.P w = .ok n w) (hl : ds.length = n) (hu : UpdR (.box g T' cs) (.box g T' cs') H H') (hp : PutR o ds cs cs')
    (h : TL K ops rest Q env H') : TL K ops (⟨none, .store T x y, ty, pos, af, none⟩ :: rest) Q env H := fun a w hs => by
  unfold wpListIn
  rw [if_pos (by rfl)]
  exact hs.store_wp hx hy hc hn hl hu hp fun a' w' hs' => h a' w' hs'

end
end Go.Ob
