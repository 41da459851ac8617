/- Rows of the call's own, written in part: copy, append in place, clear, a row made of a part and zeros; parts of rows as values. -/
import Derived.Test.YtlhjcleejolbiaaObT
import Derived.Lib.Overlaps
set_option linter.unusedVariables false
set_option linter.unusedSimpArgs false
set_option linter.unusedSectionVars false
namespace Go.Ob
open Go.RowKit

abbrev RowV (g n cap : Nat) : Value := .slice (some ⟨g, 0, none⟩) n cap

theorem flatten_take {α : Type} {es : Nat} : ∀ (xs : List (List α)) (n : Nat), (∀ x ∈ xs, x.length = es) → (xs.take n).flatten = xs.flatten.take (n * es)
  | [], n, _ => by simp
  | x :: xs, 0, _ => by simp
  | x :: xs, n + 1, h => by
    have hx := h x (by simp)
    rw [List.take_succ_cons, List.flatten_cons, List.flatten_cons, flatten_take xs n fun y hy => h y (by simp [hy]), List.take_append, hx]
    rw [List.take_of_length_le (l := x) (by rw [hx, Nat.add_mul]; omega), show (n + 1) * es - es = n * es by rw [Nat.add_mul, Nat.one_mul]; omega]
theorem flatten_drop {α : Type} {es : Nat} : ∀ (xs : List (List α)) (n : Nat), (∀ x ∈ xs, x.length = es) → (xs.drop n).flatten = xs.flatten.drop (n * es)
  | [], n, _ => by simp
  | x :: xs, 0, _ => by simp
  | x :: xs, n + 1, h => by
    have hx := h x (by simp)
    rw [List.drop_succ_cons, List.flatten_cons, flatten_drop xs n fun y hy => h y (by simp [hy]), List.drop_append, hx]
    rw [@List.drop_eq_nil_of_le _ x _ (by rw [hx, Nat.add_mul]; omega), List.nil_append, show (n + 1) * es - es = n * es by rw [Nat.add_mul, Nat.one_mul]; omega]

section
variable {K : Ctx} {Q : Exit → Env → Hp → Prop} {env : Env} {H H' : Hp} {ops : Array Oper} {rest : List Oper} {t : Nat} {ty : TypeId} {pos : String} {af : Array Edge}

theorem row_cur {w : World} {F : Nat → Prop} (hh : HeapOK w (both F H) H) {g n cap e es : Nat} {xs : List (List D)} (hm : Blk.row (RowV g n cap) e es xs ∈ H) :
    ∃ cur : Array Value, w.heap[g]? = some (.cells cur e (0, 0)) ∧ n = xs.length ∧ xs.length ≤ cap ∧ cap ≤ maxLen ∧ cur.size = cap * es ∧ (∀ x ∈ xs, x.length = es) ∧
      ∀ (j : Nat) (d : D) (u : Value), xs.flatten[j]? = some d → cur.toList[j]? = some u → u.oneCell' = true ∧ Rep w (both F H) d u := by
  obtain ⟨vals, hown, hxe, hj⟩ := row_ok hh hm
  rcases hown.2 with ⟨hn, _⟩ | ⟨g', cap', cur, hv, _, hg, hle, hm2, hs, ht⟩
  · cases hn
  · injection hv with h1 h2 h3
    injection h1 with h1
    injection h1 with h1
    subst h1; subst h2; subst h3
    refine ⟨cur, hg, rfl, hle, hm2, hs, hxe, fun j d u hd hu => hj j d u hd ?_⟩
    have hlt : j < xs.length * es := by rw [← flatten_len xs hxe]; exact (List.getElem?_eq_some_iff.1 hd).1
    rw [← ht, List.getElem?_take_of_lt hlt]; exact hu

/-- What of a row is written: cells p .. -/
theorem Sat.writeRow {a : Act} {w : World} (hs : Sat K env H a w) {g n cap e es p n' : Nat} {xs ys : List (List D)} {news : List Value} (hes : 0 < es)
    (hu : UpdR (.row (RowV g n cap) e es xs) (.row (RowV g n' cap) e es (xs.take p ++ ys ++ xs.drop (p + ys.length))) H H') (hn' : n' = (xs.take p ++ ys ++ xs.drop (p + ys.length)).length)
    (hp : p ≤ xs.length) (hc : p + ys.length ≤ cap) (hye : ∀ y ∈ ys, y.length = es) (hl : news.length = ys.length * es) (h1 : ∀ u ∈ news, u.oneCell' = true)
    (hr : ∀ (j : Nat) (d : D) (u : Value), ys.flatten[j]? = some d → news[j]? = some u → Rep w (both K.F H) d u) :
    ∃ w', (storeCells ⟨g, p * es, none⟩ news 0).run K.P w = .ok () w' ∧ Sat K env H' a w' := by
  obtain ⟨cur, hg, hn, hle, hm, hsz, hxe, hj⟩ := row_cur hs.heap hu.mem
  have hfit : p * es + news.length ≤ cur.size := by rw [hl, hsz, ← Nat.add_mul]; exact Nat.mul_le_mul_right _ hc
  have hst := run_storeCells_at K.P g (p * es) e news 0 cur w hg (by simpa using hfit) h1
  simp only [Nat.add_zero] at hst
  refine ⟨_, hst, ?_⟩
  have k := Kept.setRow w g (cur.toList.take (p * es) ++ news ++ cur.toList.drop (p * es + news.length)).toArray
  have hbb : ∀ g', (Blk.row (RowV g n' cap) e es (xs.take p ++ ys ++ xs.drop (p + ys.length))).blk = some g' → (Blk.row (RowV g n cap) e es xs).blk = some g' ∨ w.heap.size ≤ g' := fun g' hg' => .inl hg'
  have hrep : ∀ {d u}, Rep w (both K.F H) d u → Rep _ (both K.F H') d u := fun hr => hs.rep_upd hu hbb k hr
  have hxl : xs.flatten.length = xs.length * es := flatten_len xs hxe
  have hyl : ys.flatten.length = ys.length * es := flatten_len ys hye
  have hall : ∀ x ∈ xs.take p ++ ys ++ xs.drop (p + ys.length), x.length = es := fun x hx => by
    rcases List.mem_append.1 hx with hx | hx
    · rcases List.mem_append.1 hx with hx | hx
      · exact hxe x (List.mem_of_mem_take hx)
      · exact hye x hx
    · exact hxe x (List.mem_of_mem_drop hx)
  have hnc : n' ≤ cap := by rw [hn']; simp only [List.length_append, List.length_take, List.length_drop]; omega
  have hcl : (cur.toList.take (p * es) ++ news ++ cur.toList.drop (p * es + news.length)).length = cap * es := by
    simp only [List.length_append, List.length_take, List.length_drop, Array.length_toList]; omega
  refine Sat.upd (b := .row (RowV g n cap) e es xs) (b' := .row (RowV g n' cap) e es _) hs hu hbb k ⟨(cur.toList.take (p * es) ++ news ++ cur.toList.drop (p * es + news.length)).take (n' * es), ⟨?_, .inr ⟨g, cap, _, by rw [hn'], Nat.zero_le _, setRow_heap w g cur _ e _ hg, ?_, hm, ?_, ?_⟩⟩, hall, fun j d u hd hu' => ?_⟩
  · rw [List.length_take, hcl, ← hn']
    exact Nat.min_eq_left (Nat.mul_le_mul_right _ hnc)
  · rw [← hn']; exact hnc
  · simpa using hcl
  · rw [← hn']
  · have hjlt : j < n' * es := by rw [hn', ← flatten_len _ hall]; exact (List.getElem?_eq_some_iff.1 hd).1
    rw [List.getElem?_take_of_lt hjlt] at hu'
    rw [List.flatten_append, List.flatten_append, flatten_take xs p hxe, flatten_drop xs _ hxe] at hd
    have hpl : p * es ≤ xs.flatten.length := by rw [hxl]; exact Nat.mul_le_mul_right _ hp
    have hpc : p * es ≤ cur.toList.length := by rw [Array.length_toList]; omega
    have e1 : (xs.flatten.take (p * es)).length = p * es := by rw [List.length_take]; omega
    have e2 : (cur.toList.take (p * es)).length = p * es := by rw [List.length_take]; omega
    by_cases c1 : j < p * es
    · rw [List.append_assoc, List.getElem?_append_left (by rw [e1]; exact c1), List.getElem?_take_of_lt c1] at hd
      rw [List.append_assoc, List.getElem?_append_left (by rw [e2]; exact c1), List.getElem?_take_of_lt c1] at hu'
      obtain ⟨q1, q2⟩ := hj j d u hd hu'
      exact ⟨q1, hrep q2⟩
    · by_cases c2 : j < p * es + ys.length * es
      · rw [List.append_assoc, List.getElem?_append_right (by rw [e1]; omega), e1, List.getElem?_append_left (by rw [hyl]; omega)] at hd
        rw [List.append_assoc, List.getElem?_append_right (by rw [e2]; omega), e2, List.getElem?_append_left (by rw [hl]; omega)] at hu'
        exact ⟨h1 u (List.mem_of_getElem? hu'), hrep (hr _ d u hd hu')⟩
      · rw [List.getElem?_append_right (by rw [List.length_append, e1, hyl]; omega), List.length_append, e1, hyl, List.getElem?_drop] at hd
        rw [List.getElem?_append_right (by rw [List.length_append, e2, hl]; omega), List.length_append, e2, hl, List.getElem?_drop] at hu'
        have e3 : (p + ys.length) * es + (j - (p * es + ys.length * es)) = j := by rw [Nat.add_mul]; omega
        have e4 : p * es + ys.length * es + (j - (p * es + ys.length * es)) = j := by omega
        rw [e3] at hd
        rw [e4] at hu'
        obtain ⟨q1, q2⟩ := hj j d u hd hu'
        exact ⟨q1, hrep q2⟩

/-- What a copy or an append reads: k of the m elements of y. -/
inductive SrcR (env : Env) (H : Hp) (es : Nat) : Operand → Nat → Nat → List (List D) → Prop where
  | data {y : Operand} {ys : List (List D)} : opD env y = some (.sl es ys) → SrcR env H es y ys.length ys.length ys
  | part {y : Operand} {g o b m c n cap e k : Nat} {xs : List (List D)} : opD env y = some (.v (.slice (some ⟨g, o, none⟩) m c)) → Blk.row (RowV g n cap) e es xs ∈ H → o = b * es → b + k ≤ xs.length → k ≤ m → SrcR env H es y m k ((xs.drop b).take k)

theorem SrcR.cells_part {a : Act} {w : World} (hs : Sat K env H a w) {es : Nat} (hes : 0 < es) {y : Operand} {g o b m c n cap e k : Nat} {xs : List (List D)} (hy : opD env y = some (.v (.slice (some ⟨g, o, none⟩) m c))) (hm : Blk.row (RowV g n cap) e es xs ∈ H) (ho : o = b * es) (hb : b + k ≤ xs.length) (hk : k ≤ m) :
    ∃ ad c0, ∃ news : List Value, a.eval y = .slice ad m c0 ∧ (Builtin.firstCells es k (.slice ad m c0)).run K.P w = .ok news.toArray w ∧ news.length = k * es ∧ ((xs.drop b).take k).length = k ∧ (∀ x ∈ ((xs.drop b).take k), x.length = es) ∧ (∀ u ∈ news, u.oneCell' = true) ∧
      ∀ (j : Nat) (d : D) (u : Value), ((xs.drop b).take k).flatten[j]? = some d → news[j]? = some u → Rep w (both K.F H) d u := by
  obtain ⟨cur, hg, hn, hle, hm2, hsz, hxe, hj⟩ := row_cur hs.heap hm
  have hxl : xs.flatten.length = xs.length * es := flatten_len xs hxe
  have hsrc : ∀ x ∈ (xs.drop b).take k, x.length = es := fun x hx => hxe x (List.mem_of_mem_drop (List.mem_of_mem_take hx))
  have hlen : ((xs.drop b).take k).length = k := by rw [List.length_take, List.length_drop]; omega
  have hsub : o + k * es ≤ cur.toList.length := by
    rw [ho, Array.length_toList, hsz, ← Nat.add_mul]
    exact Nat.mul_le_mul_right _ (by omega)
  have hflat : ((xs.drop b).take k).flatten = (xs.flatten.drop o).take (k * es) := by
    rw [flatten_take _ _ (fun x hx => hxe x (List.mem_of_mem_drop hx)), flatten_drop xs b hxe, ho]
  have hnl : ((cur.toList.drop o).take (k * es)).length = k * es := by rw [List.length_take, List.length_drop]; omega
  have hget : ∀ (j : Nat) (u : Value), ((cur.toList.drop o).take (k * es))[j]? = some u → j < k * es ∧ cur.toList[o + j]? = some u := fun j u hu => by
    have hjl : j < k * es := by rw [← hnl]; exact (List.getElem?_eq_some_iff.1 hu).1
    rw [List.getElem?_take_of_lt hjl, List.getElem?_drop] at hu
    exact ⟨hjl, hu⟩
  have hrep : ∀ (j : Nat) (u : Value), ((cur.toList.drop o).take (k * es))[j]? = some u → ∃ d, xs.flatten[o + j]? = some d ∧ u.oneCell' = true ∧ Rep w (both K.F H) d u := fun j u hu => by
    obtain ⟨hjl, hcu⟩ := hget j u hu
    have hlt : o + j < xs.flatten.length := by
      rw [hxl]
      have : (b + k) * es ≤ xs.length * es := Nat.mul_le_mul_right _ hb
      rw [Nat.add_mul] at this
      omega
    obtain ⟨q1, q2⟩ := hj (o + j) _ u (List.getElem?_eq_getElem hlt) hcu
    exact ⟨_, List.getElem?_eq_getElem hlt, q1, q2⟩
  refine ⟨some ⟨g, o, none⟩, c, (cur.toList.drop o).take (k * es), Rep.of_v (hs.eval hy), run_firstCells_some w es k _ m c _ hnl (fun j v hv => ?_), hnl, hlen, hsrc, fun u hu => ?_, fun j d u hd hu => ?_⟩
  · obtain ⟨_, hcu⟩ := hget j v hv
    rw [own_add, cell_of_row w g (o + j) cur e (0, 0) hg]
    simpa using hcu
  · obtain ⟨j, hju⟩ := List.mem_iff_getElem?.1 hu
    exact (hrep j u hju).choose_spec.2.1
  · obtain ⟨d', hd', _, q⟩ := hrep j u hu
    rw [hflat] at hd
    have hjl := (hget j u hu).1
    rw [List.getElem?_take_of_lt hjl, List.getElem?_drop, hd'] at hd
    cases hd
    exact q
theorem SrcR.cells {a : Act} {w : World} (hs : Sat K env H a w) {es : Nat} (hes : 0 < es) {y : Operand} {m k : Nat} {src : List (List D)} (h : SrcR env H es y m k src) :
    ∃ ad c, ∃ news : List Value, a.eval y = .slice ad m c ∧ (Builtin.firstCells es k (.slice ad m c)).run K.P w = .ok news.toArray w ∧ news.length = k * es ∧ src.length = k ∧ (∀ x ∈ src, x.length = es) ∧ (∀ u ∈ news, u.oneCell' = true) ∧
      ∀ (j : Nat) (d : D) (u : Value), src.flatten[j]? = some d → news[j]? = some u → Rep w (both K.F H) d u := by
  cases h with
  | data hy =>
    rcases (hs.eval hy).sl_row hes with ⟨e2, rfl⟩ | ⟨ad, c, news, e2, hnl, hye, hnc, hno, hnr⟩
    · exact ⟨none, 0, [], e2, by simp [Builtin.firstCells], by simp, rfl, by simp, by simp, fun j d u hd => by simp at hd⟩
    · exact ⟨some ad, c, news, e2, run_firstCells_some w es _ ad _ c news hnl hnc, hnl, rfl, hye, hno, fun j d u hd hu => (hnr j d u hd hu).2⟩
  | part hy hm ho hb hk => exact SrcR.cells_part hs hes hy hm ho hb hk

theorem TL.copyRow {tt e es bytes g o p dl dc n cap n' m k : Nat} {x y : Operand} {xs src : List (List D)} (ht : AppT K.P tt e es bytes) (hx : opD env x = some (.v (.slice (some ⟨g, o, none⟩) dl dc))) (ho : o = p * es)
    (hsrc : SrcR env H es y m k src) (hk : k = Nat.min m dl) (hu : UpdR (.row (RowV g n cap) e es xs) (.row (RowV g n' cap) e es (xs.take p ++ src ++ xs.drop (p + src.length))) H H') (hn' : n' = (xs.take p ++ src ++ xs.drop (p + src.length)).length)
    (hp : p ≤ xs.length) (hc : p + src.length ≤ cap) (hd : Nat.blt t K.n = true) (h : TL K ops rest Q (env.put t (some (.v (.int .i64 k)))) H') :
    TL K ops (⟨some t, .call { callee := .builtin .copy, args := #[x, y], argTypes := #[tt, tt] }, ty, pos, af, none⟩ :: rest) Q env H := fun a w hs => by
  unfold wpListIn
  rw [if_pos (by rfl)]
  have e1 := Rep.of_v (hs.eval hx)
  obtain ⟨ad, c, news, e2, hf, hnl, hsl, hse, hno, hr⟩ := hsrc.cells hs ht.pos
  obtain ⟨w', hst, hs'⟩ := hs.writeRow ht.pos hu hn' hp hc hse (by rw [hnl, hsl]) hno hr
  rw [← ho] at hst
  have erun : (execOp a.eval ⟨some t, .call { callee := .builtin .copy, args := #[x, y], argTypes := #[tt, tt] }, ty, pos, af, none⟩).run K.P w = .ok (.value (.int .i64 k)) w' := by
    rw [hk] at hf
    simp [execOp, resolve, invoke, builtin, e1, e2, Builtin.copy_, run_underlying ht.under, ht.size, Builtin.lenOf, hf, hst, goInt, hk]
  refine wpIn_ok (fun _ h => by cases h) erun ?_
  exact h _ _ (hs'.dst (by simpa [Nat.blt_eq] using hd) (.v _))

/-- An append for which there is room. -/
theorem TL.appendIn {tt e es bytes g p n cap n' m : Nat} {x y : Operand} {xs src : List (List D)} (ht : AppT K.P tt e es bytes) (hx : opD env x = some (.v (RowV g p cap)))
    (hsrc : SrcR env H es y m m src) (hu : UpdR (.row (RowV g n cap) e es xs) (.row (RowV g n' cap) e es (xs.take p ++ src ++ xs.drop (p + src.length))) H H') (hn' : n' = (xs.take p ++ src ++ xs.drop (p + src.length)).length)
    (hp : p ≤ xs.length) (hc : p + m ≤ cap) (hd : Nat.blt t K.n = true) (h : TL K ops rest Q (env.put t (some (.v (RowV g (p + m) cap)))) H') :
    TL K ops (⟨some t, .call { callee := .builtin .append, args := #[x, y], argTypes := #[tt, tt] }, ty, pos, af, none⟩ :: rest) Q env H := fun a w hs => by
  unfold wpListIn
  rw [if_pos (by rfl)]
  have e1 := Rep.of_v (hs.eval hx)
  obtain ⟨ad, c, news, e2, hf, hnl, hsl, hse, hno, hr⟩ := hsrc.cells hs ht.pos
  obtain ⟨w', hst, hs'⟩ := hs.writeRow ht.pos hu hn' hp (by rw [hsl]; exact hc) hse (by rw [hnl, hsl]) hno hr
  obtain ⟨i, z, hi, hz, hsz, hby, hzs⟩ := ht.info
  have ha : (⟨g, 0, none⟩ : Addr).add (p * es) = ⟨g, p * es, none⟩ := by rw [own_add, Nat.zero_add]
  have hsz' : ∀ w, (sizeOf e).run K.P w = .ok es w := ht.size
  have erun : (execOp a.eval ⟨some t, .call { callee := .builtin .append, args := #[x, y], argTypes := #[tt, tt] }, ty, pos, af, none⟩).run K.P w = .ok (.value (RowV g (p + m) cap)) w' := by
    simp [execOp, resolve, invoke, builtin, e1, e2, Builtin.append_, run_underlying ht.under, hsz', Builtin.lenOf, hc, hf, ha, hst]
  refine wpIn_ok (fun _ h => by cases h) erun ?_
  exact h _ _ (hs'.dst (by simpa [Nat.blt_eq] using hd) (.v _))

/-- Zeros. -/
theorem zero_cells (z : Value) (zs : List Value) (hz : z.cells = zs.toArray) (hne : 0 < zs.length) (n : Nat) : (Builtin.zeroCells z.cells n).toList = (List.replicate n zs).flatten := by
  have hall : ∀ y ∈ List.replicate n zs, y.length = zs.length := fun y hy => by rw [List.eq_of_mem_replicate hy]
  refine List.ext_getElem? fun j => ?_
  rw [flatten_get hne _ hall]
  unfold Builtin.zeroCells
  rw [hz]
  simp only [List.size_toArray, Array.toList_map, Array.toList_range, List.getElem?_map]
  by_cases hj : j < n * zs.length
  · have h1 : j / zs.length < n := Nat.div_lt_of_lt_mul (by rw [Nat.mul_comm]; exact hj)
    have h2 : j % zs.length < zs.length := Nat.mod_lt _ hne
    rw [List.getElem?_range hj, List.getElem?_replicate, if_pos h1]
    simp [List.getElem?_eq_getElem h2, h2]
  · have h1 : ¬ j / zs.length < n := by
      intro h
      have := (Nat.div_lt_iff_lt_mul hne).1 h
      omega
    rw [List.getElem?_eq_none (by simpa using hj), List.getElem?_replicate, if_neg h1]
    rfl

theorem TL.clearRow {tt e es bytes g o p m c n cap n' : Nat} {x : Operand} {zs : List Value} {xs : List (List D)} (ht : AppT K.P tt e es bytes) (hz : ZeroT K.P e zs) (hzl : Nat.beq zs.length es = true) (hx : opD env x = some (.v (.slice (some ⟨g, o, none⟩) m c))) (ho : o = p * es) (hm : 0 < m)
    (hu : UpdR (.row (RowV g n cap) e es xs) (.row (RowV g n' cap) e es (xs.take p ++ List.replicate m (zs.map .v) ++ xs.drop (p + (List.replicate m (zs.map D.v)).length))) H H') (hn' : n' = (xs.take p ++ List.replicate m (zs.map D.v) ++ xs.drop (p + (List.replicate m (zs.map D.v)).length)).length)
    (hp : p ≤ xs.length) (hc : p + m ≤ cap) (h : TL K ops rest Q env H') :
    TL K ops (⟨none, .call { callee := .builtin .clear, args := #[x], argTypes := #[tt] }, ty, pos, af, none⟩ :: rest) Q env H := fun a w hs => by
  unfold wpListIn
  rw [if_pos (by rfl)]
  have e1 := Rep.of_v (hs.eval hx)
  have hzl' := Nat.eq_of_beq_eq_true hzl
  obtain ⟨z, hzr, hzc⟩ := hz.zero
  have hzc' := zero_cells z zs hzc (by rw [hzl']; exact ht.pos) m
  have hone := hz.one
  rw [List.all_eq_true] at hone
  have hall : ∀ y ∈ List.replicate m (zs.map D.v), y.length = es := fun y hy => by rw [List.eq_of_mem_replicate hy, List.length_map, hzl']
  have hflat : (List.replicate m (zs.map D.v)).flatten = (List.replicate m zs).flatten.map D.v := by
    rw [List.map_flatten, List.map_replicate]
  have hlen : (List.replicate m zs).flatten.length = (List.replicate m (zs.map D.v)).length * es := by
    rw [flatten_len (es := es) _ (fun y hy => by rw [List.eq_of_mem_replicate hy, hzl'])]
    simp
  obtain ⟨w', hst, hs'⟩ := hs.writeRow (news := (List.replicate m zs).flatten) ht.pos hu hn' hp (by simpa using hc) hall hlen (fun u hu => by
      obtain ⟨l, hl, hul⟩ := List.mem_flatten.1 hu
      rw [List.eq_of_mem_replicate hl] at hul
      exact hone u hul) (fun j d u hd hu => by
      rw [hflat, List.getElem?_map, hu] at hd
      cases hd
      exact .v _)
  rw [← ho] at hst
  obtain ⟨m', rfl⟩ : ∃ m', m = m' + 1 := ⟨m - 1, by omega⟩
  have erun : (execOp a.eval ⟨none, .call { callee := .builtin .clear, args := #[x], argTypes := #[tt] }, ty, pos, af, none⟩).run K.P w = .ok (.value (.tuple #[])) w' := by
    simp [execOp, resolve, invoke, builtin, e1, Builtin.clear_, run_underlying ht.under, hzr, hzc', hst]
  refine wpIn_ok (fun _ h => by cases h) erun ?_
  exact h _ _ (hs'.put (dst := none) (od := none) (v := .tuple #[]) (Kept.refl _ _) (fun _ h => by cases h) (fun _ h => by cases h))

/-- A new row: the first elements of one, and zeros; there is no room in that one. -/
theorem TL.appendZeros {tt te e es bytes g p n cap zc : Nat} {ik : IntKind} {x y : Operand} {zs : List Value} {xs : List (List D)} (ht : AppT K.P tt e es bytes) (hti : K.P.underlying te = some (.int ik)) (hz : ZeroT K.P e zs) (hzl : Nat.beq zs.length es = true)
    (hx : opD env x = some (.v (RowV g p cap))) (hy : opD env y = some (.v (.int .i64 (zc : Int)))) (hm : Blk.row (RowV g n cap) e es xs ∈ H) (hp : p ≤ xs.length) (hroom : cap < p + zc) (hb : (p + zc) * bytes ≤ 140737488355328) (hs63 : p + zc ≤ 4611686018427387904) (hd : Nat.blt t K.n = true)
    (h : ∀ g2 cap2, p + zc ≤ cap2 → TL K ops rest Q (env.put t (some (.v (RowV g2 (p + zc) cap2)))) (.row (RowV g2 (p + zc) cap2) e es (xs.take p ++ List.replicate zc (zs.map .v)) :: H)) :
    TL K ops (⟨some t, .call { callee := .builtin .append, args := #[x, y], argTypes := #[tt, te] }, ty, pos, af, none⟩ :: rest) Q env H := fun a w hs => by
  unfold wpListIn
  rw [if_pos (by rfl)]
  have e1 := Rep.of_v (hs.eval hx)
  have e2 := Rep.of_v (hs.eval hy)
  obtain ⟨i, z0, hi, hz0, hsz, hby, hzs⟩ := ht.info
  obtain ⟨cur, hg, hn, hle, hm2, hcs, hxe, hj⟩ := row_cur hs.heap hm
  have hzl' := Nat.eq_of_beq_eq_true hzl
  obtain ⟨z, hzr, hzc⟩ := hz.zero
  have hzz : z = z0 := by
    have h1 := hzr w
    simp [zeroValue, typeInfo, hi, hz0] at h1
    exact h1.symm
  subst hzz
  have hzc1 := zero_cells z zs hzc (by rw [hzl']; exact ht.pos)
  have hone := hz.one
  rw [List.all_eq_true] at hone
  have hl0 : ¬ ((zc : Int) < 0) := by omega
  have hwrap : IntKind.i64.wrap (zc : Int) = zc := IntWalk.i64_in _ (by constructor <;> omega)
  have hzb : zc * bytes ≤ 281474976710656 := by
    have : zc * bytes ≤ (p + zc) * bytes := Nat.mul_le_mul_right _ (by omega)
    omega
  have h48 : ¬ (281474976710656 < (zc : Int) * (bytes : Int)) := by
    have : ((zc * bytes : Nat) : Int) = (zc : Int) * (bytes : Int) := Int.natCast_mul _ _
    omega
  have hfit := growslice_fits (need := p + zc) (old := cap) (bytes := bytes) hroom hb
  have h48' : ¬ (281474976710656 < Builtin.nextslicecap (p + zc) cap * bytes) := by omega
  have h63' : ¬ (9223372036854775807 < ((p : Int) + (zc : Int))) := by omega
  have hroom' : ¬ (p + zc ≤ cap) := by omega
  have hpc : p * es ≤ cur.toList.length := by rw [Array.length_toList, hcs]; exact Nat.mul_le_mul_right _ (by omega)
  have hold : (Builtin.firstCells es p (.slice (some ⟨g, 0, none⟩) p cap)).run K.P w.drew = .ok (cur.toList.take (p * es)).toArray w.drew :=
    run_firstCells_some w.drew es p _ p cap _ (by rw [List.length_take]; omega) (fun j v hv => by
      have hjl : j < p * es := by
        have := (List.getElem?_eq_some_iff.1 hv).1
        rw [List.length_take] at this; omega
      rw [List.getElem?_take_of_lt hjl] at hv
      rw [own_add, Nat.zero_add]
      have := cell_of_row w g j cur e (0, 0) hg
      show w.drew.cell? _ = _
      rw [show w.drew.cell? ⟨g, j, none⟩ = w.cell? ⟨g, j, none⟩ from rfl, this]
      simpa using hv)
  have hzn : (Builtin.zeroCells z.cells zc).toList = (List.replicate zc zs).flatten := hzc1 zc
  obtain ⟨c2, hc2⟩ : ∃ c2, c2 = grownCap w (p + zc) cap e := ⟨_, rfl⟩
  have hge : p + zc ≤ c2 := by rw [hc2]; exact grownCap_ge w _ _ e
  have hcm : c2 ≤ maxLen := by rw [hc2]; exact grownCap_le_maxLen w _ _ e (by simp only [maxLen]; omega)
  obtain ⟨newcur, hnc⟩ : ∃ nc : Array Value, nc = (cur.toList.take (p * es)).toArray ++ Builtin.zeroCells z.cells zc ++ Builtin.zeroCells z.cells (c2 - (p + zc)) := ⟨_, rfl⟩
  have erun : (execOp a.eval ⟨some t, .call { callee := .builtin .append, args := #[x, y], argTypes := #[tt, te] }, ty, pos, af, none⟩).run K.P w = .ok (.value (RowV w.heap.size (p + zc) c2)) (w.drew.alloc (.cells newcur e)) := by
    subst hsz; subst hby
    by_cases hzero : zc * i.size = 0
    · exfalso
      have : 0 < zc * i.size := Nat.mul_pos (by omega) ht.pos
      omega
    · simp [execOp, resolve, invoke, builtin, e1, e2, Builtin.append_, run_underlying ht.under, run_underlying hti, sizeOf, typeInfo, zeroValue, hi, hz0, Builtin.lenOf, asInt, asIntOf, hwrap, hl0, h48, hroom', h63', h48', Question.forced, hold, hzero, newRow, grownCap, hc2, hnc]
  refine wpIn_ok (fun _ h => by cases h) erun ?_
  have hk : Kept no w (w.drew.alloc (.cells newcur e)) := (Kept.drew no w).trans (Kept.alloc no _ _)
  have hb : ∀ g', (Blk.row (RowV w.heap.size (p + zc) c2) e es (xs.take p ++ List.replicate zc (zs.map .v))).blk = some g' → w.heap.size ≤ g' := fun g' hg' => by
    simp only [Blk.blk, Value.ownBlock, Option.some.injEq] at hg'; omega
  have hall : ∀ y ∈ xs.take p ++ List.replicate zc (zs.map D.v), y.length = es := fun y hy => by
    rcases List.mem_append.1 hy with hy | hy
    · exact hxe y (List.mem_of_mem_take hy)
    · rw [List.eq_of_mem_replicate hy, List.length_map, hzl']
  have hlen : (xs.take p ++ List.replicate zc (zs.map D.v)).length = p + zc := by simp; omega
  have hzcl : ∀ q, (Builtin.zeroCells z.cells q).size = q * es := fun q => by
    rw [← Array.length_toList, hzc1 q, flatten_len (es := es) _ (fun y hy => by rw [List.eq_of_mem_replicate hy, hzl'])]; simp
  have hncl : newcur.toList = cur.toList.take (p * es) ++ (List.replicate zc zs).flatten ++ (List.replicate (c2 - (p + zc)) zs).flatten := by
    rw [hnc, Array.toList_append, Array.toList_append, hzn, hzc1]
  have hncs : newcur.size = c2 * es := by
    rw [hnc, Array.size_append, Array.size_append, hzcl, hzcl, List.size_toArray, List.length_take, Nat.min_eq_left hpc, ← Nat.add_mul, ← Nat.add_mul]
    congr 1; omega
  refine h w.heap.size c2 hge _ _ (Sat.dst (hs.push (b := .row (RowV w.heap.size (p + zc) c2) e es (xs.take p ++ List.replicate zc (zs.map .v))) hk hb ⟨newcur.toList.take ((p + zc) * es), ⟨?_, .inr ⟨w.heap.size, c2, newcur, by rw [hlen], Nat.zero_le _, heap_alloc_new w.drew _, by rw [hlen]; exact hge, hcm, hncs, by rw [hlen]⟩⟩, hall, fun j d u hd hu => ?_⟩) (by simpa [Nat.blt_eq] using hd) (.v _))
  · rw [List.length_take, Array.length_toList, hncs, hlen]
    exact Nat.min_eq_left (Nat.mul_le_mul_right _ hge)
  · have hjl : j < (p + zc) * es := by rw [← hlen, ← flatten_len _ hall]; exact (List.getElem?_eq_some_iff.1 hd).1
    rw [List.getElem?_take_of_lt hjl, hncl] at hu
    rw [List.flatten_append, flatten_take xs p hxe] at hd
    have hxl : xs.flatten.length = xs.length * es := flatten_len xs hxe
    have e3 : (xs.flatten.take (p * es)).length = p * es := by
      rw [List.length_take, hxl]; exact Nat.min_eq_left (Nat.mul_le_mul_right _ hp)
    have e4 : (cur.toList.take (p * es)).length = p * es := by rw [List.length_take]; omega
    by_cases c1 : j < p * es
    · rw [List.getElem?_append_left (by rw [e3]; exact c1), List.getElem?_take_of_lt c1] at hd
      rw [List.append_assoc, List.getElem?_append_left (by rw [e4]; exact c1), List.getElem?_take_of_lt c1] at hu
      obtain ⟨q1, q2⟩ := hj j d u hd hu
      exact ⟨q1, hs.rep_push hk hb q2⟩
    · have hflat : (List.replicate zc (zs.map D.v)).flatten = (List.replicate zc zs).flatten.map D.v := by rw [List.map_flatten, List.map_replicate]
      have hzl3 : (List.replicate zc zs).flatten.length = zc * es := by
        rw [flatten_len (es := es) _ (fun y hy => by rw [List.eq_of_mem_replicate hy, hzl'])]; simp
      rw [List.getElem?_append_right (by rw [e3]; omega), e3, hflat, List.getElem?_map] at hd
      rw [List.append_assoc, List.getElem?_append_right (by rw [e4]; omega), e4, List.getElem?_append_left (by rw [hzl3]; rw [Nat.add_mul] at hjl; omega)] at hu
      rw [hu] at hd
      cases hd
      refine ⟨?_, .v _⟩
      obtain ⟨l, hl, hul⟩ := List.mem_flatten.1 (List.mem_of_getElem? hu)
      rw [List.eq_of_mem_replicate hl] at hul
      exact hone u hul
end
section
variable {P : Program} {H : Hp} {env : Env} {dst : Option Tmp} {ty : TypeId} {pos : String} {af : Array Edge} {gd : Option (Nat × Bool)}
/-- s[lo:hi:max] of a row's value -/
theorem pure_sliceV {x : Operand} {t e es g o n c : Nat} {lo hi mx : Option Operand} {l h m : Nat} (ht : SliceT P t e es) (hx : opD env x = some (.v (.slice (some ⟨g, o, none⟩) n c)))
    (hlo : match lo with | none => l = 0 | some y => opD env y = some (.v (.int .i64 (l : Int)))) (hhi : match hi with | none => h = n ∧ mx = none | some y => opD env y = some (.v (.int .i64 (h : Int))))
    (hmx : match mx with | none => m = c | some y => opD env y = some (.v (.int .i64 (m : Int)))) (h1 : l ≤ h) (h2 : h ≤ m) (h3 : m ≤ c) :
    Pure P H ⟨dst, .slice t x lo hi mx, ty, pos, af, gd⟩ env (.v (.slice (some ⟨g, if m = l then o else o + l * es, none⟩) (h - l) (m - l))) := pure_of fun w F ρ hh hr => by
  have e1 := Rep.of_v (hr x (by simp [Op.operands]) _ hx)
  have el : ∀ y, lo = some y → ρ y = .int .i64 (l : Int) := fun y hy => by subst hy; exact Rep.of_v (hr y (by simp [Op.operands]) _ hlo)
  have eh : ∀ y, hi = some y → ρ y = .int .i64 (h : Int) := fun y hy => by subst hy; exact Rep.of_v (hr y (by simp [Op.operands]) _ hhi)
  have em : ∀ y, mx = some y → ρ y = .int .i64 (m : Int) := fun y hy => by subst hy; exact Rep.of_v (hr y (by simp [Op.operands]) _ hmx)
  have k1 : (l : Int) ≤ (h : Int) := by omega
  have k2 : (h : Int) ≤ (m : Int) := by omega
  have k3 : (m : Int) ≤ (c : Int) := by omega
  have k4 : (h : Int) ≤ (c : Int) := by omega
  have k5 : (0 : Int) ≤ (l : Int) := by omega
  have k6 : (0 : Int) ≤ (h : Int) := by omega
  have k7 : (0 : Int) ≤ (m : Int) := by omega
  have k8 : h ≤ c := by omega
  refine ⟨_, ?_, .v _⟩
  have ha : (⟨g, o, none⟩ : Addr).add (l * es) = ⟨g, o + l * es, none⟩ := own_add g o _
  have hif : (if m = l then (some ⟨g, o, none⟩ : Option Addr) else some ⟨g, o + l * es, none⟩) = some ⟨g, if m = l then o else o + l * es, none⟩ := by split <;> rfl
  cases mx with
  | none =>
    have hm0 : m = c := hmx
    subst hm0
    cases hi with
    | none =>
      obtain ⟨hn, _⟩ : h = n ∧ _ := hhi
      subst hn
      cases lo with
      | none =>
        have hl0 : l = 0 := hlo
        subst hl0
        simp [execOp, Instr.sliceAt, run_underlying ht.under, e1, Instr.slice, Instr.sliceBounds, ht.size, own_add] at hif ⊢
      | some yl => simp [execOp, Instr.sliceAt, run_underlying ht.under, e1, Instr.slice, Instr.sliceBounds, ht.size, el yl rfl, Instr.sliceBound, asIntOf, h1, ha, hif]
    | some yh =>
      cases lo with
      | none =>
        have hl0 : l = 0 := hlo
        subst hl0
        simp [execOp, Instr.sliceAt, run_underlying ht.under, e1, Instr.slice, Instr.sliceBounds, ht.size, eh yh rfl, Instr.sliceBound, asIntOf, h2, own_add] at hif ⊢
      | some yl => simp [execOp, Instr.sliceAt, run_underlying ht.under, e1, Instr.slice, Instr.sliceBounds, ht.size, el yl rfl, eh yh rfl, Instr.sliceBound, asIntOf, h1, h2, ha, hif]
  | some ym =>
    cases hi with
    | none => exact absurd (show (some ym : Option Operand) = none from hhi.2) (by simp)
    | some yh =>
      cases lo with
      | none =>
        have hl0 : l = 0 := hlo
        subst hl0
        simp [execOp, Instr.sliceAt, run_underlying ht.under, e1, Instr.slice, Instr.sliceBounds, ht.size, eh yh rfl, em ym rfl, Instr.sliceBound, asIntOf, h2, h3, own_add] at hif ⊢
      | some yl => simp [execOp, Instr.sliceAt, run_underlying ht.under, e1, Instr.slice, Instr.sliceBounds, ht.size, el yl rfl, eh yh rfl, em ym rfl, Instr.sliceBound, asIntOf, h1, h2, h3, ha, hif]
theorem pure_cap {x : Operand} {t e es n c : Nat} {a : Option Addr} (ht : SliceT P t e es) (hx : opD env x = some (.v (.slice a n c))) :
    Pure P H ⟨dst, .call { callee := .builtin .cap, args := #[x], argTypes := #[t] }, ty, pos, af, gd⟩ env (.v (.int .i64 c)) := pure_of fun w _ ρ hh h => by
  have e1 := Rep.of_v (h x (by simp [Op.operands, Call.operands]) _ hx)
  exact ⟨_, by simp [execOp, resolve, invoke, builtin, Builtin.cap_, run_underlying ht.under, e1, goInt], .v _⟩
theorem pure_lenV {x : Operand} {t e es n c : Nat} {a : Option Addr} (ht : SliceT P t e es) (hx : opD env x = some (.v (.slice a n c))) :
    Pure P H ⟨dst, .call { callee := .builtin .len, args := #[x], argTypes := #[t] }, ty, pos, af, gd⟩ env (.v (.int .i64 n)) := pure_of fun w _ ρ hh h => by
  have e1 := Rep.of_v (h x (by simp [Op.operands, Call.operands]) _ hx)
  exact ⟨_, by simp [execOp, resolve, invoke, builtin, Builtin.len_, run_underlying ht.under, e1, goInt], .v _⟩
end
section
variable {K : Ctx} {Q : Exit → Env → Hp → Prop} {env : Env} {H : Hp}
/-- A row seen with fewer elements. -/
theorem Sat.shrink {a : Act} {w : World} {H' : Hp} {g n cap e es k : Nat} {xs : List (List D)} (h : Sat K env H a w) (hu : UpdR (.row (RowV g n cap) e es xs) (.row (RowV g k cap) e es (xs.take k)) H H') (hk : k ≤ xs.length) : Sat K env H' a w := by
  obtain ⟨cur, hg, hn, hle, hm, hsz, hxe, hj⟩ := row_cur h.heap hu.mem
  have hlen : (xs.take k).length = k := by rw [List.length_take]; omega
  refine h.upd hu (fun g' hg' => .inl hg') (Kept.refl _ _) ⟨cur.toList.take (k * es), ⟨?_, .inr ⟨g, cap, cur, by rw [hlen], Nat.zero_le _, hg, by rw [hlen]; omega, hm, hsz, by rw [hlen]⟩⟩, fun x hx => hxe x (List.mem_of_mem_take hx), fun j d u hd hu' => ?_⟩
  · rw [List.length_take, Array.length_toList, hsz, hlen]
    exact Nat.min_eq_left (Nat.mul_le_mul_right _ (by omega))
  · rw [flatten_take xs k hxe] at hd
    have hjl : j < k * es := by
      have := (List.getElem?_eq_some_iff.1 hd).1
      rw [List.length_take] at this; omega
    rw [List.getElem?_take_of_lt hjl] at hd hu'
    obtain ⟨q1, q2⟩ := hj j d u hd hu'
    refine ⟨q1, q2.fewer fun g hg => hg.imp id fun ho => ?_⟩
    rcases hu.own ho with h1 | h1
    · exact h1
    · exact ⟨_, hu.mem, h1⟩
theorem TC.shrink {c : Code} {H' : Hp} {g n cap e es k : Nat} {xs : List (List D)} (hu : UpdR (.row (RowV g n cap) e es xs) (.row (RowV g k cap) e es (xs.take k)) H H') (hk : k ≤ xs.length) (h : TC K c Q env H') : TC K c Q env H := TC.view (fun _ _ hs => hs.shrink hu hk) h
/-- The shape of a row's value. -/
theorem TC.rowShape {c : Code} {v : Value} {e es : Nat} {xs : List (List D)} (hm : Blk.row v e es xs ∈ H) (h : (v = .slice none 0 0 ∧ xs = []) ∨ (∃ g cap, v = RowV g xs.length cap ∧ xs.length ≤ cap) → TC K c Q env H) : TC K c Q env H := fun a w hs => by
  obtain ⟨vals, hown, _⟩ := row_ok hs.heap hm
  rcases hown.2 with ⟨hv, hn⟩ | ⟨g, cap, cur, hv, _, _, hle, _⟩
  · exact h (.inl ⟨hv, List.length_eq_zero_iff.1 hn⟩) a w hs
  · exact h (.inr ⟨g, cap, hv, hle⟩) a w hs
end
section
variable {K : Ctx} {Q : Exit → Env → Hp → Prop} {env : Env} {H H1 H2 : Hp} {ops : Array Oper} {rest : List Oper} {t : Nat} {ty : TypeId} {pos : String} {af : Array Edge}
/-- A slice that is only read, held against nil: nobody knows, but that nil is empty. -/
theorem TL.eqlNil {T e es : Nat} {t2 : TypeId} {x y : Operand} {xs : List (List D)} (hu : K.P.underlying T = some (.slice e)) (hx : opD env x = some (.sl es xs)) (hy : opD env y = some (.v (.slice none 0 0))) (hd : Nat.blt t K.n = true)
    (h : ∀ b : Bool, (b = true → xs = []) → TL K ops rest Q (env.put t (some (.v (.bool b)))) H) : TL K ops (⟨some t, .binOp .eql T x y t2, ty, pos, af, none⟩ :: rest) Q env H := fun a w hs => by
  unfold wpListIn
  rw [if_pos (by rfl)]
  have e2 := Rep.of_v (hs.eval hy)
  have e1 := hs.eval hx
  have key : ∀ (ad : Option Addr) (n c : Nat), a.eval x = .slice ad n c → (execOp a.eval ⟨some t, .binOp .eql T x y t2, ty, pos, af, none⟩).run K.P w = .ok (.value (.bool ad.isNone)) w := fun ad n c he => by
    have hq : ∀ d : Nat, (Op.equalIn (d + 1) T (.slice ad n c) (.slice none 0 0)).run K.P w = .ok ad.isNone w := fun d => by
      unfold Op.equalIn
      cases ad <;> simp [run_underlying hu]
    have hg : (eqGuard .eql T x y (.slice ad n c) (.slice none 0 0)).run K.P w = .ok () w := by unfold eqGuard; rfl
    have e3 : binOp .eql T (.slice ad n c) (.slice none 0 0) = (do pure (.bool (← Op.equal T (.slice ad n c) (.slice none 0 0)))) := rfl
    simp only [execOp, he, e2, Sem.run_bind, hg, Result.andThen_ok, e3, Op.equal, Op.maxDepth, hq 9999]; rfl
  generalize hux : a.eval x = u at e1
  cases e1 with
  | nil es =>
    refine wpIn_ok (fun _ h => by cases h) (key _ _ _ hux) ?_
    exact h true (fun _ => rfl) _ _ (hs.dst (by simpa [Nat.blt_eq] using hd) (.v _))
  | sl _ _ ad c val =>
    refine wpIn_ok (fun _ h => by cases h) (key _ _ _ hux) ?_
    exact h false (fun h => by cases h) _ _ (hs.dst (by simpa [Nat.blt_eq] using hd) (.v _))

theorem row_shape? {w : World} {g : Nat} {cur : Array Value} {e : TypeId} (h : w.heap[g]? = some (.cells cur e (0, 0))) : w.shape? g = some (e, cur.size) := by simp [World.shape?, h]
theorem row_frozen? {w : World} {g o : Nat} {cur : Array Value} {e : TypeId} (h : w.heap[g]? = some (.cells cur e (0, 0))) : w.frozen? ⟨g, o, none⟩ = false := by simp [World.frozen?, h]

theorem TL.overlaps {f T e es g1 o1 la ca n1 cap1 g2 o2 lb cb n2 cap2 : Nat} {x y : Operand} {ts : Array TypeId} {xs ys : List (List D)} (ht : SliceT K.P T e es)
    (hc : ∀ (as0 : Array Value) (w : World) (v : Value), (Extern.SlicesOverlaps.overlaps #[T, T] #[4] as0).run K.P w = .ok v w → (callFunc f as0).run K.P w = .ok (.value v) w)
    (hx : opD env x = some (.v (.slice (some ⟨g1, o1, none⟩) la ca))) (hy : opD env y = some (.v (.slice (some ⟨g2, o2, none⟩) lb cb))) (hs2 : SplitR H H1 H2) (hm1 : Blk.row (RowV g1 n1 cap1) e es xs ∈ H1) (hm2 : Blk.row (RowV g2 n2 cap2) e es ys ∈ H2) (hes : 0 < es) (hcap : 0 < cap2)
    (hd : Nat.blt t K.n = true) (h : TL K ops rest Q (env.put t (some (.v (.bool false)))) H) :
    TL K ops (⟨some t, .call { callee := .value (.func f), args := #[x, y], argTypes := ts }, ty, pos, af, none⟩ :: rest) Q env H := fun a w hs => by
  unfold wpListIn
  rw [if_pos (by rfl)]
  have e1 := Rep.of_v (hs.eval hx)
  have e2 := Rep.of_v (hs.eval hy)
  obtain ⟨cur1, hg1, _⟩ := row_cur hs.heap (hs2.spec.1.subset hm1)
  obtain ⟨cur2, hg2, _, _, _, hsz2, _⟩ := row_cur hs.heap (hs2.spec.2.1.subset hm2)
  have hne : g1 ≠ g2 := fun he => hs2.apart hs.heap.apart _ hm1 _ hm2 g1 rfl (by rw [he]; rfl)
  have hk2 : cur2.size ≠ 0 := by
    rw [hsz2]
    have := Nat.mul_pos hcap hes
    omega
  have hov := hc #[.slice (some ⟨g1, o1, none⟩) la ca, .slice (some ⟨g2, o2, none⟩) lb cb] w _ (Lib.run_overlaps_apart w T 4 e ht.under es ht.size ⟨g1, o1, none⟩ ⟨g2, o2, none⟩ la ca lb cb hne e e cur1.size cur2.size (row_shape? hg1) (row_shape? hg2) hk2 (row_frozen? hg1) (row_frozen? hg1))
  have erun : (execOp a.eval ⟨some t, .call { callee := .value (.func f), args := #[x, y], argTypes := ts }, ty, pos, af, none⟩).run K.P w = .ok (.value (.bool false)) w := by
    have e0 : a.eval (.func f) = Value.func (.func f) #[] #[] := rfl
    simp [execOp, resolve, Deferred.ofValue, e0, invoke, e1, e2, hov]
  refine wpIn_ok (fun _ h => by cases h) erun ?_
  exact h _ _ (hs.dst (by simpa [Nat.blt_eq] using hd) (.v _))
end
theorem castI {x : Int} {n : Nat} (h : x = n) : some (D.v (.int .i64 x)) = some (D.v (.int .i64 (n : Int))) := by rw [h]
theorem pure_sliceNil {P : Program} {H : Hp} {env : Env} {dst : Option Tmp} {ty : TypeId} {pos : String} {af : Array Edge} {gd : Option (Nat × Bool)} {x y : Operand} {t e es : Nat} (ht : SliceT P t e es) (hx : opD env x = some (.v (.slice none 0 0))) (hy : opD env y = some (.v (.int .i64 0))) :
    Pure P H ⟨dst, .slice t x (some y) none none, ty, pos, af, gd⟩ env (.v (.slice none 0 0)) := pure_of fun w F ρ hh hr => by
  have e1 := Rep.of_v (hr x (by simp [Op.operands]) _ hx)
  have e2 := Rep.of_v (hr y (by simp [Op.operands]) _ hy)
  exact ⟨_, by simp [execOp, Instr.sliceAt, run_underlying ht.under, e1, Instr.slice, Instr.sliceBounds, ht.size, e2, Instr.sliceBound, asIntOf], .v _⟩
/-- A result that is a row which stays the caller's. -/
theorem retRow {P : Program} {env : Env} {H : Hp} {t e es : Nat} {v : Value} {xs ys : List (List D)} (hr : env t = some (.v v)) (hm : Blk.row v e es xs ∈ H) (h : xs = ys) :
    RetA P [ResultVar.tmp t].toArray (fun r H' => ∃ v, r = .v v ∧ H' = [.row v e es ys]) .ret env H := by
  subst h
  exact ⟨.inl rfl, [.v v], .tmp hr .nil, [.row v e es xs], List.singleton_sublist.2 hm, v, rfl, rfl⟩
end Go.Ob
