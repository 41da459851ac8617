import Derived.Test.YtlhjcleejolbiaaObU
set_option linter.unusedVariables false
set_option linter.unusedSimpArgs false
namespace Go.Ob
open Go.Proofs
/-! ### copies into a row, beyond its end; the gap filled -/
section
variable {K : Ctx} {Q : Exit → Env → Hp → Prop} {env : Env} {H H' : Hp} {ops : Array Oper} {rest : List Oper} {t : Nat} {ty : TypeId} {pos : String} {af : Array Edge}
theorem Sat.writeGap {a : Act} {w : World} (hs : Sat K env H a w) {g n cap e es p : Nat} {xs ys : List (List D)} {news : List Value} (hes : 0 < es)
    (hu : UpdR (.row (RowV g n cap) e es xs) (.gap g cap e es xs (p - n) ys) H H') (hp : n ≤ p) (hc : p + ys.length ≤ cap) (hye : ∀ y ∈ ys, y.length = es) (hl : news.length = ys.length * es) (h1 : ∀ u ∈ news, u.oneCell' = true)
    (hr : ∀ (j : Nat) (d : D) (u : Value), ys.flatten[j]? = some d → news[j]? = some u → Rep w (both K.F H) d u) :
    ∃ w', (storeCells ⟨g, p * es, none⟩ news 0).run K.P w = .ok () w' ∧ Sat K env H' a w' := by
  obtain ⟨cur, hg, hn, hle, hm, hsz, hxe, hj⟩ := row_cur hs.heap hu.mem
  have hfit : p * es + news.length ≤ cur.size := by rw [hl, hsz, ← Nat.add_mul]; exact Nat.mul_le_mul_right _ hc
  have hst := run_storeCells_at K.P g (p * es) e news 0 cur w hg (by simpa using hfit) h1
  simp only [Nat.add_zero] at hst
  refine ⟨_, hst, ?_⟩
  have k := Kept.setRow w g (cur.toList.take (p * es) ++ news ++ cur.toList.drop (p * es + news.length)).toArray
  have hbb : ∀ g', (Blk.gap g cap e es xs (p - n) ys).blk = some g' → (Blk.row (RowV g n cap) e es xs).blk = some g' ∨ w.heap.size ≤ g' := fun g' hg' => .inl hg'
  have hrep : ∀ {d u}, Rep w (both K.F H) d u → Rep _ (both K.F H') d u := fun hr => hs.rep_upd hu hbb k hr
  have hxl : xs.flatten.length = xs.length * es := flatten_len xs hxe
  have hyl : ys.flatten.length = ys.length * es := flatten_len ys hye
  have hcl : (cur.toList.take (p * es) ++ news ++ cur.toList.drop (p * es + news.length)).length = cap * es := by
    simp only [List.length_append, List.length_take, List.length_drop, Array.length_toList]; omega
  have e2 : (cur.toList.take (p * es)).length = p * es := by rw [List.length_take, Array.length_toList]; omega
  have hxp : xs.length * es ≤ p * es := Nat.mul_le_mul_right _ (by omega)
  refine Sat.upd (b := .row (RowV g n cap) e es xs) (b' := .gap g cap e es xs (p - n) ys) hs hu hbb k ⟨_, setRow_heap w g cur _ e _ hg, hm, by simpa using hcl, by omega, hxe, hye, fun j d u hd hu' => ?_, fun j d u hd hu' => ?_⟩
  · have hjlt : j < xs.length * es := by rw [← hxl]; exact (List.getElem?_eq_some_iff.1 hd).1
    rw [List.append_assoc, List.getElem?_append_left (by rw [e2]; omega), List.getElem?_take_of_lt (by omega)] at hu'
    obtain ⟨q1, q2⟩ := hj j d u hd hu'
    exact ⟨q1, hrep q2⟩
  · have hjlt : j < ys.length * es := by rw [← hyl]; exact (List.getElem?_eq_some_iff.1 hd).1
    rw [show (xs.length + (p - n)) * es + j = p * es + j by rw [show xs.length + (p - n) = p by omega], List.append_assoc, List.getElem?_append_right (by rw [e2]; omega), e2, show p * es + j - p * es = j by omega, List.getElem?_append_left (by rw [hl]; omega)] at hu'
    exact ⟨h1 u (List.mem_of_getElem? hu'), hrep (hr _ d u hd hu')⟩
theorem Sat.fillGap {a : Act} {w : World} (hs : Sat K env H a w) {g k cap e es p n' : Nat} {xs ys zs : List (List D)} {news : List Value} (hes : 0 < es)
    (hu : UpdR (.gap g cap e es xs k zs) (.row (RowV g n' cap) e es (xs.take p ++ ys ++ zs)) H H') (hn' : n' = (xs.take p ++ ys ++ zs).length) (hp : p ≤ xs.length) (hpk : p + ys.length = xs.length + k) (hye : ∀ y ∈ ys, y.length = es) (hl : news.length = ys.length * es) (h1 : ∀ u ∈ news, u.oneCell' = true)
    (hr : ∀ (j : Nat) (d : D) (u : Value), ys.flatten[j]? = some d → news[j]? = some u → Rep w (both K.F H) d u) :
    ∃ w', (storeCells ⟨g, p * es, none⟩ news 0).run K.P w = .ok () w' ∧ Sat K env H' a w' := by
  obtain ⟨cur, hg, hm, hsz, hle, hxe, hze, hj, hz⟩ := hs.heap.each _ hu.mem
  have hcp : p + ys.length ≤ cap := by omega
  have hfit : p * es + news.length ≤ cur.size := by rw [hl, hsz, ← Nat.add_mul]; exact Nat.mul_le_mul_right _ hcp
  have hst := run_storeCells_at K.P g (p * es) e news 0 cur w hg (by simpa using hfit) h1
  simp only [Nat.add_zero] at hst
  refine ⟨_, hst, ?_⟩
  have k' := Kept.setRow w g (cur.toList.take (p * es) ++ news ++ cur.toList.drop (p * es + news.length)).toArray
  have hbb : ∀ g', (Blk.row (RowV g n' cap) e es (xs.take p ++ ys ++ zs)).blk = some g' → (Blk.gap g cap e es xs k zs).blk = some g' ∨ w.heap.size ≤ g' := fun g' hg' => .inl hg'
  have hrep : ∀ {d u}, Rep w (both K.F H) d u → Rep _ (both K.F H') d u := fun hr => hs.rep_upd hu hbb k' hr
  have hxl : xs.flatten.length = xs.length * es := flatten_len xs hxe
  have hyl : ys.flatten.length = ys.length * es := flatten_len ys hye
  have hzl : zs.flatten.length = zs.length * es := flatten_len zs hze
  have hall : ∀ x ∈ xs.take p ++ ys ++ zs, x.length = es := fun x hx => by
    rcases List.mem_append.1 hx with hx | hx
    · rcases List.mem_append.1 hx with hx | hx
      · exact hxe x (List.mem_of_mem_take hx)
      · exact hye x hx
    · exact hze x hx
  have hnl : n' = p + ys.length + zs.length := by rw [hn']; simp only [List.length_append, List.length_take]; omega
  have hnc : n' ≤ cap := by omega
  have hcl : (cur.toList.take (p * es) ++ news ++ cur.toList.drop (p * es + news.length)).length = cap * es := by
    simp only [List.length_append, List.length_take, List.length_drop, Array.length_toList]; omega
  refine Sat.upd (b := .gap g cap e es xs k zs) (b' := .row (RowV g n' cap) e es _) hs hu hbb k' ⟨(cur.toList.take (p * es) ++ news ++ cur.toList.drop (p * es + news.length)).take (n' * es), ⟨?_, .inr ⟨g, cap, _, by rw [hn'], Nat.zero_le _, setRow_heap w g cur _ e _ hg, ?_, hm, ?_, ?_⟩⟩, hall, fun j d u hd hu' => ?_⟩
  · rw [List.length_take, hcl, ← hn']
    exact Nat.min_eq_left (Nat.mul_le_mul_right _ hnc)
  · rw [← hn']; exact hnc
  · simpa using hcl
  · rw [← hn']
  · have hjlt : j < n' * es := by rw [hn', ← flatten_len _ hall]; exact (List.getElem?_eq_some_iff.1 hd).1
    rw [List.getElem?_take_of_lt hjlt] at hu'
    rw [List.flatten_append, List.flatten_append, flatten_take xs p hxe] at hd
    have hpl : p * es ≤ xs.flatten.length := by rw [hxl]; exact Nat.mul_le_mul_right _ hp
    have e1 : (xs.flatten.take (p * es)).length = p * es := by rw [List.length_take]; omega
    have e2 : (cur.toList.take (p * es)).length = p * es := by rw [List.length_take, Array.length_toList]; omega
    by_cases c1 : j < p * es
    · rw [List.append_assoc, List.getElem?_append_left (by rw [e1]; exact c1), List.getElem?_take_of_lt c1] at hd
      rw [List.append_assoc, List.getElem?_append_left (by rw [e2]; exact c1), List.getElem?_take_of_lt c1] at hu'
      obtain ⟨q1, q2⟩ := hj j d u hd hu'
      exact ⟨q1, hrep q2⟩
    · by_cases c2 : j < p * es + ys.length * es
      · rw [List.append_assoc, List.getElem?_append_right (by rw [e1]; omega), e1, List.getElem?_append_left (by rw [hyl]; omega)] at hd
        rw [List.append_assoc, List.getElem?_append_right (by rw [e2]; omega), e2, List.getElem?_append_left (by rw [hl]; omega)] at hu'
        exact ⟨h1 u (List.mem_of_getElem? hu'), hrep (hr _ d u hd hu')⟩
      · rw [List.getElem?_append_right (by rw [List.length_append, e1, hyl]; omega), List.length_append, e1, hyl] at hd
        rw [List.getElem?_append_right (by rw [List.length_append, e2, hl]; omega), List.length_append, e2, hl, List.getElem?_drop] at hu'
        have e4 : p * es + ys.length * es + (j - (p * es + ys.length * es)) = (xs.length + k) * es + (j - (p * es + ys.length * es)) := by rw [← hpk, Nat.add_mul]
        rw [e4] at hu'
        obtain ⟨q1, q2⟩ := hz _ d u hd hu'
        exact ⟨q1, hrep q2⟩
theorem TL.copyGap {tt e es bytes g o p dl dc n cap m k : Nat} {x y : Operand} {xs src : List (List D)} (ht : AppT K.P tt e es bytes) (hx : opD env x = some (.v (.slice (some ⟨g, o, none⟩) dl dc))) (ho : o = p * es)
    (hsrc : SrcR env H es y m k src) (hk : k = Nat.min m dl) (hu : UpdR (.row (RowV g n cap) e es xs) (.gap g cap e es xs (p - n) src) H H') (hp : n ≤ p) (hc : p + src.length ≤ cap) (hd : Nat.blt t K.n = true) (h : TL K ops rest Q (env.put t (some (.v (.int .i64 k)))) H') :
    TL K ops (⟨some t, .call { callee := .builtin .copy, args := #[x, y], argTypes := #[tt, tt] }, ty, pos, af, none⟩ :: rest) Q env H := fun a w hs => by
  unfold wpListIn
  rw [if_pos (by rfl)]
  have e1 := Rep.of_v (hs.eval hx)
  obtain ⟨ad, c, news, e2, hf, hnl, hsl, hse, hno, hr⟩ := hsrc.cells hs ht.pos
  obtain ⟨w', hst, hs'⟩ := hs.writeGap ht.pos hu hp hc hse (by rw [hnl, hsl]) hno hr
  rw [← ho] at hst
  have erun : (execOp a.eval ⟨some t, .call { callee := .builtin .copy, args := #[x, y], argTypes := #[tt, tt] }, ty, pos, af, none⟩).run K.P w = .ok (.value (.int .i64 k)) w' := by
    rw [hk] at hf
    simp [execOp, resolve, invoke, builtin, e1, e2, Builtin.copy_, run_underlying ht.under, ht.size, Builtin.lenOf, hf, hst, goInt, hk]
  refine wpIn_ok (fun _ h => by cases h) erun ?_
  exact h _ _ (hs'.dst (by simpa [Nat.blt_eq] using hd) (.v _))
theorem TL.copyFill {tt e es bytes g o p dl dc n' cap m k kk : Nat} {x y : Operand} {xs src zs : List (List D)} (ht : AppT K.P tt e es bytes) (hx : opD env x = some (.v (.slice (some ⟨g, o, none⟩) dl dc))) (ho : o = p * es)
    (hsrc : SrcR env H es y m k src) (hk : k = Nat.min m dl) (hu : UpdR (.gap g cap e es xs kk zs) (.row (RowV g n' cap) e es (xs.take p ++ src ++ zs)) H H') (hn' : n' = (xs.take p ++ src ++ zs).length) (hp : p ≤ xs.length) (hpk : p + src.length = xs.length + kk) (hd : Nat.blt t K.n = true) (h : TL K ops rest Q (env.put t (some (.v (.int .i64 k)))) H') :
    TL K ops (⟨some t, .call { callee := .builtin .copy, args := #[x, y], argTypes := #[tt, tt] }, ty, pos, af, none⟩ :: rest) Q env H := fun a w hs => by
  unfold wpListIn
  rw [if_pos (by rfl)]
  have e1 := Rep.of_v (hs.eval hx)
  obtain ⟨ad, c, news, e2, hf, hnl, hsl, hse, hno, hr⟩ := hsrc.cells hs ht.pos
  obtain ⟨w', hst, hs'⟩ := hs.fillGap ht.pos hu hn' hp hpk hse (by rw [hnl, hsl]) hno hr
  rw [← ho] at hst
  have erun : (execOp a.eval ⟨some t, .call { callee := .builtin .copy, args := #[x, y], argTypes := #[tt, tt] }, ty, pos, af, none⟩).run K.P w = .ok (.value (.int .i64 k)) w' := by
    rw [hk] at hf
    simp [execOp, resolve, invoke, builtin, e1, e2, Builtin.copy_, run_underlying ht.under, ht.size, Builtin.lenOf, hf, hst, goInt, hk]
  refine wpIn_ok (fun _ h => by cases h) erun ?_
  exact h _ _ (hs'.dst (by simpa [Nat.blt_eq] using hd) (.v _))
end
end Go.Ob
