import Derived.Test.YtlhjcleejolbiaaZl
set_option linter.unusedVariables false
set_option linter.unusedSimpArgs false
set_option linter.unnecessarySimpa false
set_option linter.unusedVariables false
set_option linter.unusedSimpArgs false
namespace Go.Ob
open Go.Proofs
def glF : Int → List CellD → List ((Int × Int) × Int)
  | _, [] => []
  | k, c :: cs => ((k, k + min (spanN c) (32 - k)), getP c.props 61 0) :: glF (k + min (spanN c) (32 - k)) cs
theorem glF_append : ∀ (a b : List CellD) (k : Int), glF k (a ++ b) = glF k a ++ glF (endF k a) b
  | [], b, k => rfl
  | c :: a, b, k => by simp [glF, endF, glF_append a b]
theorem endF_append : ∀ (a b : List CellD) (k : Int), endF k (a ++ b) = endF (endF k a) b
  | [], b, k => rfl
  | c :: a, b, k => by simp [endF, endF_append a b]
theorem glF_len : ∀ (cs : List CellD) (k : Int), (glF k cs).length = cs.length
  | [], _ => rfl
  | c :: cs, k => by simp [glF, glF_len cs]
theorem glF_at : ∀ (cs : List CellD) (k : Int) (j : Nat), j < cs.length → (glF k cs)[j]? = some (sAt (spansFrom k cs) (j : Nat), getP (cAt cs (j : Nat)).props 61 0)
  | [], _, _, h => by simp at h
  | c :: cs, k, 0, _ => by simp [glF, sAt, spansFrom, cAt]
  | c :: cs, k, j + 1, h => by
    have ih := glF_at cs (k + min (spanN c) (32 - k)) j (by simpa using h)
    simp only [sAt, cAt, Int.toNat_natCast, spansFrom, glF, List.getElem?_cons_succ, List.getD_cons_succ] at ih ⊢
    exact ih
theorem glF_mono : ∀ (cs : List CellD) (k : Int), k ≤ 32 → ∀ p ∈ glF k cs, k ≤ p.1.1 ∧ p.1.1 ≤ p.1.2 ∧ p.1.2 ≤ 32
  | [], _, _, p, h => by cases h
  | c :: cs, k, hk, p, h => by
    have hs := spanN_pos c
    rcases List.mem_cons.1 h with rfl | h
    · exact ⟨Int.le_refl _, by dsimp only; omega, by dsimp only; omega⟩
    · have := glF_mono cs _ (by omega) p h
      omega
theorem glF_sorted : ∀ (cs : List CellD) (k : Int), k ≤ 32 → (glF k cs).Pairwise fun p q => p.1.2 ≤ q.1.1
  | [], _, _ => List.Pairwise.nil
  | c :: cs, k, hk => by
    have hs := spanN_pos c
    exact List.Pairwise.cons (fun q hq => (glF_mono cs _ (by omega) q hq).1) (glF_sorted cs _ (by omega))
theorem filterMap_eq {α β : Type} {f g : α → Option β} : ∀ {l : List α}, (∀ x ∈ l, f x = g x) → l.filterMap f = l.filterMap g
  | [], _ => rfl
  | x :: l, h => by rw [List.filterMap_cons, List.filterMap_cons, h x List.mem_cons_self, filterMap_eq fun y hy => h y (List.mem_cons_of_mem _ hy)]
theorem takeC_snoc (cs : List CellD) (n : Nat) (h : n < cs.length) : cs.take (n + 1) = cs.take n ++ [cAt cs (n : Nat)] := by
  rw [List.take_add_one, List.getElem?_eq_getElem h]
  simp [cAt, h]
theorem glF_one (r : RowD) (n : Nat) (h : n < r.cells.length) : glF (endF 0 (r.cells.take n)) [cAt r.cells (n : Nat)] = [(sAt (spansR r) (n : Nat), getP (cAt r.cells (n : Nat)).props 61 0)] := by
  have h1 := sAt_eq r (n : Int) (by omega) (by omega)
  have h2 := sAt_step r (n : Int) (by omega) (by omega)
  have h3 : endF 0 (r.cells.take n) = spTo r n := by rw [endF_of _ _ h]; exact congrArg Prod.fst h1
  rw [h3, h2]
  rfl
def HS (rs : List RowD) (i : Int) (s : Int × Int) (g : Int) : Prop := ∃ k, Val rs i k ∧ spN rs i k = s ∧ mgN rs i k = g
theorem HS_mem {rs : List RowD} {i : Int} {s : Int × Int} {g : Int} : HS rs i s g ↔ 0 ≤ i ∧ i < rs.length ∧ s.1 ≠ s.2 ∧ (s, g) ∈ glF 0 (rAt rs i).cells := by
  constructor
  · rintro ⟨k, hv, rfl, rfl⟩
    have e := glF_at (rAt rs i).cells 0 k.toNat (by have := hv.2.2.1; have := hv.2.2.2.1; unfold ncN at this; omega)
    rw [show ((k.toNat : Nat) : Int) = k by have := hv.2.2.1; omega] at e
    exact ⟨hv.1, hv.2.1, hv.2.2.2.2, List.mem_of_getElem? e⟩
  · rintro ⟨h0, h1, h2, h3⟩
    obtain ⟨j, he⟩ := List.mem_iff_getElem?.1 h3
    have hj : j < (rAt rs i).cells.length := by have := (List.getElem?_eq_some_iff.1 he).1; rwa [glF_len] at this
    have e := glF_at (rAt rs i).cells 0 j hj
    rw [he] at e
    have e2 := Option.some.inj e
    have e3 : s = spN rs i (j : Nat) := congrArg Prod.fst e2
    have e4 : g = mgN rs i (j : Nat) := congrArg Prod.snd e2
    exact ⟨(j : Int), ⟨h0, h1, by omega, by unfold ncN; omega, by rw [← e3]; exact h2⟩, e3.symm, e4.symm⟩
theorem CS_HS {rs : List RowD} {s : Int × Int} {i : Int} : CS rs s i ↔ HS rs i s 2 ∧ ∃ g, HS rs (i - 1) s g ∧ (g = 1 ∨ g = 2) := by
  constructor
  · rintro ⟨k, k', a, b, c, d, e, f⟩
    exact ⟨⟨k, a, b, c⟩, _, ⟨k', d, e, rfl⟩, f⟩
  · rintro ⟨⟨k, a, b, c⟩, g, ⟨k', d, e, f⟩, h⟩
    exact ⟨k, k', a, b, c, d, e, by rw [f]; exact h⟩
theorem HS.lt {rs : List RowD} {i : Int} {s : Int × Int} {g : Int} (h : HS rs i s g) : 0 ≤ s.1 ∧ s.1 < s.2 ∧ s.2 ≤ 32 := by
  obtain ⟨k, hv, rfl, rfl⟩ := h
  have := hv.lt
  have := sAt_le (rAt rs i) k hv.2.2.1 hv.2.2.2.1
  unfold spN at *; omega
theorem HS.fun {rs : List RowD} {i : Int} {s : Int × Int} {g g' : Int} (h : HS rs i s g) (h' : HS rs i s g') : g = g' := by
  obtain ⟨k, hv, hs, rfl⟩ := h
  obtain ⟨k', hv', hs', rfl⟩ := h'
  obtain rfl := hv.inj hv' (hs.trans hs'.symm)
  rfl
open Classical in
noncomputable def FA (rs : List RowD) (i : Nat) (s : Int × Int) : Option A4 := if s.1 ≠ s.2 ∧ ¬ CS rs s i then some ⟨i, s.1, botN rs s (i + 1) (rs.length - (i + 1)), s.2⟩ else none
noncomputable def rowA (rs : List RowD) (i : Nat) : List A4 := (glF 0 (rAt rs i).cells).filterMap fun p => FA rs i p.1
noncomputable def allA (rs : List RowD) : Nat → List A4
  | 0 => []
  | i + 1 => allA rs i ++ rowA rs i
def arQ (q : R6) : A4 := ⟨q.top, q.left, q.bottom, q.right⟩
theorem rowA_starts (rs : List RowD) (i : Nat) (hi : i < rs.length) : ∀ n, n ≤ ncN rs i → (startsC rs i n).map (fun p => arQ (rectN rs p.1 p.2)) = (glF 0 ((rAt rs i).cells.take n)).filterMap fun p => FA rs i p.1
  | 0, _ => rfl
  | n + 1, h => by
    have ih := rowA_starts rs i hi n (by omega)
    have hn : n < (rAt rs i).cells.length := by unfold ncN at h; omega
    rw [startsC, List.map_append, ih, takeC_snoc _ n hn, glF_append, List.filterMap_append, glF_one (rAt rs i) n hn]
    congr 1
    have hsp : sAt (spansR (rAt rs i)) (n : Nat) = spN rs i (n : Nat) := rfl
    rw [hsp]
    by_cases hs : stB rs i n = true
    · rw [if_pos hs]
      unfold stB at hs
      rw [Bool.and_eq_true, decide_eq_true_eq] at hs
      have hv : Val rs i n := ⟨by omega, by omega, by omega, by unfold ncN; omega, hs.1⟩
      have hb : contB rs i n = false := by simpa using hs.2
      have hc : ¬ CS rs (spN rs i n) i := fun hc => by rw [(contB_iff hv).2 hc] at hb; cases hb
      have ht : topN rs (spN rs i n) i = i := by
        have := topN_stop (rs := rs) (s := spN rs i n) (i := (i : Int)) (by omega) (by rw [csB_val hv]; exact hb)
        rwa [Int.toNat_natCast] at this
      simp only [List.map_cons, List.map_nil, List.filterMap_cons, List.filterMap_nil]
      unfold FA
      rw [if_pos ⟨hs.1, hc⟩]
      simp [arQ, rectN, ht]
    · rw [if_neg hs]
      simp only [List.map_nil, List.filterMap_cons, List.filterMap_nil]
      unfold FA
      rw [if_neg]
      rintro ⟨h1, h2⟩
      apply hs
      have hv : Val rs i n := ⟨by omega, by omega, by omega, by unfold ncN; omega, h1⟩
      unfold stB
      rw [Bool.and_eq_true, decide_eq_true_eq]
      refine ⟨h1, ?_⟩
      rw [Bool.not_eq_true', ← Bool.not_eq_true]
      exact fun hc => h2 ((contB_iff hv).1 hc)
theorem allA_starts (rs : List RowD) : ∀ n, n ≤ rs.length → (startsR rs n).map (fun p => arQ (rectN rs p.1 p.2)) = allA rs n
  | 0, _ => rfl
  | n + 1, h => by
    have h1 := rowA_starts rs n (by omega) (ncN rs n) (Nat.le_refl _)
    rw [startsR, List.map_append, allA_starts rs n (by omega), h1, allA]
    congr 1
    unfold ncN rowA
    rw [List.take_length]
theorem rects_areas (rs : List RowD) : (layRects rs).map arQ = allA rs rs.length := by
  have hf := lay_final rs
  have hD := hf.D
  simp only [startsC, List.append_nil] at hD
  rw [← allA_starts rs rs.length (Nat.le_refl _), ← hD, List.map_map]
  refine List.map_congr_left fun q hq => ?_
  obtain ⟨n, hn, rfl⟩ := List.getElem_of_mem hq
  have e : qAt (layRects rs) n = (layRects rs)[n] := by simp [qAt, hn]
  have r := hf.C (n : Int) (by omega) (by show (n : Int) < ((layRects rs).length : Int); omega)
  have r' : RectI rs rs.length 0 (layRects rs)[n] := by rw [← e]; exact r
  have := rect_eq r' r'.val ⟨r'.sp.symm, Int.le_refl _, r'.rb⟩
  simp only [Function.comp]
  rw [← this]
def gM (a : A4) (i : Int) (p : (Int × Int) × Int) : Option ((Int × Int) × Int) :=
  if p.1.1 < a.l ∨ p.1.1 ≥ a.r ∨ p.1.1 = p.1.2 then some p else if p.1.1 > a.l then none else some ((a.l, a.r), mvA a i)
theorem mrgC_span {a : A4} (hab : a.l < a.r) (i : Int) (c : CellD) : spanN (mrgC a i c) = a.r - a.l := by
  unfold spanN mrgC putC
  simp only
  rw [putP_get, if_neg (by decide), putP_get, if_pos rfl]
  split <;> omega
theorem mrgC_mg (a : A4) (i : Int) (c : CellD) : getP (mrgC a i c).props 61 0 = mvA a i := by
  unfold mrgC putC
  simp only
  rw [putP_get, if_pos rfl]
  split <;> omega
theorem glM {a : A4} (i : Int) (r : RowD) (h0 : 0 ≤ a.l) (hab : a.l < a.r) (h32 : a.r ≤ 32)
    (hcl : ∀ k : Int, 0 ≤ k → k < r.cells.length → (sAt (spansR r) k).1 ≠ (sAt (spansR r) k).2 → (sAt (spansR r) k).2 ≤ a.l ∨ a.r ≤ (sAt (spansR r) k).1 ∨ (a.l ≤ (sAt (spansR r) k).1 ∧ (sAt (spansR r) k).2 ≤ a.r)) :
    ∀ n, n ≤ r.cells.length → glF 0 (mrgTo a i r n) = (glF 0 (r.cells.take n)).filterMap (gM a i) ∧ endF 0 (mrgTo a i r n) = if spTo r n ≤ a.l then spTo r n else max a.r (spTo r n)
  | 0, _ => ⟨rfl, by simp [mrgTo, endF, spTo]; omega⟩
  | n + 1, h => by
    obtain ⟨h1, h2⟩ := glM i r h0 hab h32 hcl n (by omega)
    have hs := sAt_eq r (n : Int) (by omega) (by omega)
    have hst := sAt_step r (n : Int) (by omega) (by omega)
    have hm := spTo_mono1 r (n : Int) (by omega) (by omega)
    have hg := sp_range r (n : Int) (by omega) (by omega)
    have hg2 := sp_range r ((n : Int) + 1) (by omega) (by omega)
    have hck := hcl (n : Int) (by omega) (by omega)
    have hcast : ((n + 1 : Nat) : Int) = (n : Int) + 1 := by omega
    rw [takeC_snoc _ n (by omega), glF_append, List.filterMap_append, glF_one r n (by omega), mrgTo, glF_append, endF_append, h1, h2, hcast]
    unfold mrgK
    have hse : spTo r (n : Int) + min (spanN (cAt r.cells (n : Nat))) (32 - spTo r (n : Int)) = spTo r ((n : Int) + 1) := congrArg Prod.snd (hst.symm.trans hs)
    have hsp1 := spanN_pos (cAt r.cells (n : Nat))
    have hlast : spTo r (n : Int) = spTo r ((n : Int) + 1) → spTo r (n : Int) = 32 := by intro he; omega
    rw [hs] at hck ⊢
    dsimp only at hck ⊢
    simp only [List.filterMap_cons, List.filterMap_nil, gM]
    generalize spTo r (n : Int) = e at *
    generalize spTo r ((n : Int) + 1) = e' at *
    by_cases hk : e < a.l ∨ e ≥ a.r ∨ e = e'
    · rw [if_pos hk, if_pos hk]
      have hk2 : e < a.l ∨ e ≥ a.r := by
        rcases hk with h | h | h
        · exact .inl h
        · exact .inr h
        · have := hlast h; omega
      have hE : (if e ≤ a.l then e else max a.r e) = e := by split <;> omega
      rw [hE]
      refine ⟨?_, ?_⟩
      · simp only [glF]
        rw [hse]
      · simp only [endF]
        rw [hse]
        split <;> omega
    · rw [if_neg hk, if_neg hk]
      have hck2 := hck (by omega)
      by_cases hl : e > a.l
      · have hE : (if e ≤ a.l then e else max a.r e) = a.r := by rw [if_neg (by omega)]; omega
        have hE' : (if e' ≤ a.l then e' else max a.r e') = a.r := by rw [if_neg (by omega)]; omega
        rw [if_pos hl, if_pos hl, hE, hE']
        exact ⟨by simp [glF], rfl⟩
      · rw [if_neg hl, if_neg hl]
        have he : e = a.l := by omega
        subst he
        rw [if_pos (Int.le_refl _), if_neg (by omega)]
        have hmn : min (spanN (mrgC a i (cAt r.cells (n : Nat)))) (32 - a.l) = a.r - a.l := by rw [mrgC_span hab]; omega
        refine ⟨?_, ?_⟩
        · simp only [glF]
          rw [hmn, mrgC_mg, show a.l + (a.r - a.l) = a.r by omega]
        · simp only [endF]
          rw [hmn]
          omega
theorem glF_congr : ∀ (cs cs' : List CellD) (k : Int), cs.length = cs'.length → (∀ j : Nat, j < cs.length → spanN (cAt cs' (j : Nat)) = spanN (cAt cs (j : Nat))) → spansFrom k cs' = spansFrom k cs
  | [], [], _, _, _ => rfl
  | [], _ :: _, _, h, _ => by simp at h
  | _ :: _, [], _, h, _ => by simp at h
  | c :: cs, c' :: cs', k, h, hj => by
    have h0 := hj 0 (by simp)
    simp only [cAt, Int.toNat_natCast, List.getD_cons_zero] at h0
    simp only [spansFrom]
    rw [h0, glF_congr cs cs' _ (by simpa using h) fun j hjl => by
      have := hj (j + 1) (by simpa using hjl)
      simpa only [cAt, Int.toNat_natCast, List.getD_cons_succ] using this]
def gX (a : A4) (p : (Int × Int) × Int) : (Int × Int) × Int := if p.1 = (a.l, a.r) ∧ p.2 = 2 then (p.1, 1) else p
theorem glFix (a : A4) (r : RowD) : glF 0 (fixR a r).cells = (glF 0 r.cells).map (gX a) := by
  have hl : (fixR a r).cells.length = r.cells.length := fixTo_len _ _ _
  have hc : ∀ j : Nat, j < r.cells.length → cAt (fixR a r).cells (j : Nat) = fixC a r j := fun j hj => by
    simp [cAt, fixR, fixTo, hj]
  have hsp : spansFrom 0 (fixR a r).cells = spansFrom 0 r.cells := glF_congr _ _ 0 hl.symm fun j hj => by
    rw [hc j hj]
    unfold fixC
    split
    · unfold spanN putC
      simp only
      rw [putP_get, if_neg (by decide)]
    · rfl
  apply List.ext_getElem?
  intro j
  by_cases hj : j < r.cells.length
  · rw [List.getElem?_map, glF_at _ _ j hj, glF_at _ _ j (by rw [hl]; exact hj), hsp, hc j hj, Option.map_some]
    congr 1
    unfold gX fixC
    dsimp only
    have hsr : sAt (spansR r) (j : Nat) = sAt (spansFrom 0 r.cells) (j : Nat) := rfl
    rw [hsr]
    by_cases hh : sAt (spansFrom 0 r.cells) (j : Nat) = (a.l, a.r) ∧ getP (cAt r.cells (j : Nat)).props 61 0 = 2
    · rw [if_pos hh, if_pos ⟨hh.1, (merged2 _).2 hh.2⟩]
      unfold putC
      simp only
      rw [putP_get, if_pos rfl, if_neg (by decide)]
    · rw [if_neg hh, if_neg (fun h => hh ⟨h.1, (merged2 _).1 h.2⟩)]
  · rw [List.getElem?_eq_none (by rw [glF_len, hl]; omega), List.getElem?_eq_none (by rw [List.length_map, glF_len]; omega)]
structure MrgOk (rs : List RowD) (a : A4) : Prop where
  ins : InsideA rs a
  clo : ClosedA (layRects rs) a
  ful : FullA rs a
theorem MrgOk.b {rs : List RowD} {a : A4} (h : MrgOk rs a) : 0 ≤ a.t ∧ a.t < a.b ∧ a.b ≤ rs.length ∧ 0 ≤ a.l ∧ a.l < a.r ∧ a.r ≤ 32 := by
  have h1 := h.ins.inA
  have h2 := h.ins
  unfold InA at h1
  unfold InsideA at h2
  omega
theorem MrgOk.first {rs : List RowD} {a : A4} (h : MrgOk rs a) {i : Int} (h1 : a.t ≤ i) (h2 : i < a.b) : ∃ k, Val rs i k ∧ (spN rs i k).1 = a.l ∧ (spN rs i k).2 ≤ a.r := by
  obtain ⟨b1, b2, b3, b4, b5, b6⟩ := h.b
  have hf := h.ful i h1 h2
  have key : ∀ n : Nat, n ≤ (rAt rs i).cells.length → a.l < spTo (rAt rs i) n → ∃ k : Int, 0 ≤ k ∧ k < n ∧ spTo (rAt rs i) k ≤ a.l ∧ a.l < spTo (rAt rs i) (k + 1) := by
    intro n
    induction n with
    | zero => intro _ hh; simp [spTo] at hh; omega
    | succ n ih =>
      intro hn hh
      by_cases hc : a.l < spTo (rAt rs i) n
      · obtain ⟨k, x1, x2, x3, x4⟩ := ih (by omega) hc
        exact ⟨k, x1, by omega, x3, x4⟩
      · exact ⟨n, by omega, by omega, by omega, by rwa [show ((n + 1 : Nat) : Int) = (n : Int) + 1 by omega] at hh⟩
  obtain ⟨k, x1, x2, x3, x4⟩ := key (rAt rs i).cells.length (Nat.le_refl _) (by omega)
  have hs := sAt_eq (rAt rs i) k x1 (by omega)
  have hv : Val rs i k := ⟨by omega, by omega, x1, by unfold ncN; omega, by unfold spN; rw [hs]; dsimp only; omega⟩
  have hc := closed_row h.clo h1 h2 hv
  refine ⟨k, hv, ?_, ?_⟩ <;> (unfold spN at *; rw [hs] at hc ⊢; dsimp only at hc ⊢; omega)
theorem MrgOk.border {rs : List RowD} {a : A4} (h : MrgOk rs a) {s : Int × Int} (h1 : s.1 < a.r) (h2 : a.l < s.2) : ¬ CS rs s a.t ∧ ¬ CS rs s a.b := by
  obtain ⟨b1, b2, b3, b4, b5, b6⟩ := h.b
  have key : ∀ i, CS rs s i → ∃ q ∈ layRects rs, q.top ≤ i - 1 ∧ i < q.bottom ∧ q.left = s.1 ∧ q.right = s.2 := fun i hc => by
    obtain ⟨k, k', x1, x2, _⟩ := id hc
    refine ⟨rectN rs i k, rectN_mem x1, ?_⟩
    obtain ⟨y1, y2, y3, y4, y5⟩ := rectN_row x1
    rw [x2] at y3 y4
    have ht := topN_spec rs (spN rs i k) i.toNat (by have := x1.1; have := x1.2.1; omega)
    have e : (rectN rs i k).top = topN rs (spN rs i k) i.toNat := rfl
    refine ⟨?_, y2, y3, y4⟩
    rcases Int.lt_or_eq_of_le y1 with hl | hl
    · omega
    · exact absurd hc (by rw [← hl, e, ← x2]; exact ht.2.2)
  constructor
  · intro hc
    obtain ⟨q, hq, x1, x2, x3, x4⟩ := key _ hc
    have := h.clo q hq ⟨by omega, by omega, by omega, by omega⟩
    unfold SubQ at this; omega
  · intro hc
    obtain ⟨q, hq, x1, x2, x3, x4⟩ := key _ hc
    have := h.clo q hq ⟨by omega, by omega, by omega, by omega⟩
    unfold SubQ at this; omega
theorem MrgOk.gl {rs : List RowD} {a : A4} (h : MrgOk rs a) {i : Int} (h1 : a.t ≤ i) (h2 : i < a.b) : glF 0 (rAt (mrgT rs a) i).cells = (glF 0 (rAt rs i).cells).filterMap (gM a i) := by
  obtain ⟨b1, b2, b3, b4, b5, b6⟩ := h.b
  rw [mrgT_row rs a i (by omega) (by omega)]
  unfold mrgI
  rw [if_pos ⟨h1, h2⟩]
  have := (glM (a := a) i (rAt rs i) b4 b5 b6 (fun k k0 k1 hne => closed_row h.clo h1 h2 (show Val rs i k from ⟨by omega, by omega, k0, k1, hne⟩)) (rAt rs i).cells.length (Nat.le_refl _)).1
  rw [List.take_length] at this
  exact this
theorem MrgOk.closed {rs : List RowD} {a : A4} (h : MrgOk rs a) {i : Int} {s : Int × Int} {g : Int} (h1 : a.t ≤ i) (h2 : i < a.b) (hs : HS rs i s g) : s.2 ≤ a.l ∨ a.r ≤ s.1 ∨ (a.l ≤ s.1 ∧ s.2 ≤ a.r) := by
  obtain ⟨k, hv, rfl, rfl⟩ := hs
  exact closed_row h.clo h1 h2 hv
theorem MrgOk.in {rs : List RowD} {a : A4} (h : MrgOk rs a) {i : Int} {s : Int × Int} {g : Int} (h1 : a.t ≤ i) (h2 : i < a.b) :
    HS (mrgT rs a) i s g ↔ (HS rs i s g ∧ (s.2 ≤ a.l ∨ a.r ≤ s.1)) ∨ (s = (a.l, a.r) ∧ g = mvA a i) := by
  obtain ⟨b1, b2, b3, b4, b5, b6⟩ := h.b
  rw [HS_mem, h.gl h1 h2, mrgT_len, List.mem_filterMap]
  constructor
  · rintro ⟨x1, x2, x3, p, hp, he⟩
    unfold gM at he
    split at he
    · rename_i hk
      have he := Option.some.inj he
      subst he
      dsimp only at hk
      have hh : HS rs i s g := HS_mem.2 ⟨x1, x2, x3, hp⟩
      have := h.closed h1 h2 hh
      have := hh.lt
      exact .inl ⟨hh, by omega⟩
    · split at he
      · cases he
      · have he := Option.some.inj he
        exact .inr ⟨(congrArg Prod.fst he).symm, (congrArg Prod.snd he).symm⟩
  · rintro (⟨hh, hd⟩ | ⟨rfl, rfl⟩)
    · obtain ⟨x1, x2, x3, x4⟩ := HS_mem.1 hh
      have := hh.lt
      refine ⟨x1, x2, x3, (s, g), x4, ?_⟩
      unfold gM
      rw [if_pos (by dsimp only; omega)]
    · obtain ⟨k, hv, y1, y2⟩ := h.first h1 h2
      have hh : HS rs i (spN rs i k) (mgN rs i k) := ⟨k, hv, rfl, rfl⟩
      obtain ⟨x1, x2, x3, x4⟩ := HS_mem.1 hh
      have := hv.lt
      refine ⟨x1, x2, by dsimp only; omega, _, x4, ?_⟩
      unfold gM
      rw [if_neg (by dsimp only; omega), if_neg (by dsimp only; omega)]
theorem MrgOk.out {rs : List RowD} {a : A4} (h : MrgOk rs a) {i : Int} {s : Int × Int} {g : Int} (h1 : ¬ (a.t ≤ i ∧ i < a.b)) (h2 : ¬ (i = a.b ∧ a.b > a.t + 1)) : HS (mrgT rs a) i s g ↔ HS rs i s g := by
  rw [HS_mem, HS_mem, mrgT_len]
  by_cases hi : 0 ≤ i ∧ i < rs.length
  · rw [mrgT_row rs a i hi.1 hi.2]
    unfold mrgI
    rw [if_neg h1, if_neg h2]
  · constructor <;> (intro hh; exact absurd ⟨hh.1, hh.2.1⟩ hi)
theorem MrgOk.at {rs : List RowD} {a : A4} (h : MrgOk rs a) {s : Int × Int} {g : Int} (h2 : a.b > a.t + 1) : HS (mrgT rs a) a.b s g ↔ ∃ g', HS rs a.b s g' ∧ g = if s = (a.l, a.r) ∧ g' = 2 then 1 else g' := by
  obtain ⟨b1, b2, b3, b4, b5, b6⟩ := h.b
  rw [HS_mem, mrgT_len]
  by_cases hi : a.b < rs.length
  · rw [mrgT_row rs a a.b (by omega) hi]
    unfold mrgI
    rw [if_neg (by omega), if_pos ⟨rfl, h2⟩, glFix, List.mem_map]
    constructor
    · rintro ⟨x1, x2, x3, p, hp, he⟩
      unfold gX at he
      have e1 : p.1 = s := by
        split at he
        · exact congrArg Prod.fst he
        · exact congrArg Prod.fst he
      have e2 : g = if p.1 = (a.l, a.r) ∧ p.2 = 2 then 1 else p.2 := by
        by_cases hc : p.1 = (a.l, a.r) ∧ p.2 = 2
        · rw [if_pos hc] at he ⊢
          exact (congrArg Prod.snd he).symm
        · rw [if_neg hc] at he ⊢
          exact (congrArg Prod.snd he).symm
      subst e1
      exact ⟨p.2, HS_mem.2 ⟨x1, x2, x3, hp⟩, e2⟩
    · rintro ⟨g', hh, rfl⟩
      obtain ⟨x1, x2, x3, x4⟩ := HS_mem.1 hh
      refine ⟨x1, x2, x3, (s, g'), x4, ?_⟩
      unfold gX
      dsimp only
      split <;> rfl
  · constructor
    · rintro ⟨_, hh, _⟩; exact absurd hh hi
    · rintro ⟨g', hh, _⟩; exact absurd (HS_mem.1 hh).2.1 hi
theorem MrgOk.side {rs : List RowD} {a : A4} (h : MrgOk rs a) {s : Int × Int} (hs : s.1 < s.2) (hd : s.2 ≤ a.l ∨ a.r ≤ s.1) (i : Int) (g : Int) : HS (mrgT rs a) i s g ↔ HS rs i s g := by
  obtain ⟨b1, b2, b3, b4, b5, b6⟩ := h.b
  have hne : s ≠ (a.l, a.r) := fun he => by subst he; dsimp only at hs hd; omega
  by_cases h1 : a.t ≤ i ∧ i < a.b
  · rw [h.in h1.1 h1.2]
    constructor
    · rintro (⟨x, _⟩ | ⟨x, _⟩)
      · exact x
      · exact absurd x hne
    · exact fun x => .inl ⟨x, hd⟩
  · by_cases h2 : i = a.b ∧ a.b > a.t + 1
    · rw [h2.1, h.at h2.2]
      constructor
      · rintro ⟨g', x, rfl⟩
        rw [if_neg (fun y => hne y.1)]; exact x
      · exact fun x => ⟨g, x, by rw [if_neg (fun y => hne y.1)]⟩
    · exact h.out h1 h2
theorem MrgOk.cs_side {rs : List RowD} {a : A4} (h : MrgOk rs a) {s : Int × Int} (hs : s.1 < s.2) (hd : s.2 ≤ a.l ∨ a.r ≤ s.1) (i : Int) : CS (mrgT rs a) s i ↔ CS rs s i := by
  rw [CS_HS, CS_HS, h.side hs hd]
  simp only [h.side hs hd]
theorem MrgOk.over {rs : List RowD} {a : A4} (h : MrgOk rs a) {s : Int × Int} {g i : Int} (h1 : s.1 < a.r) (h2 : a.l < s.2) (hi : a.t ≤ i) (hi2 : i < a.b) (hh : HS (mrgT rs a) i s g) : s = (a.l, a.r) ∧ g = mvA a i := by
  rcases (h.in hi hi2).1 hh with ⟨x, y⟩ | x
  · omega
  · exact x
theorem MrgOk.cs_top {rs : List RowD} {a : A4} (h : MrgOk rs a) {s : Int × Int} (h1 : s.1 < a.r) (h2 : a.l < s.2) : ¬ CS (mrgT rs a) s a.t := by
  obtain ⟨b1, b2, b3, b4, b5, b6⟩ := h.b
  rw [CS_HS]
  rintro ⟨hh, _⟩
  have := (h.over h1 h2 (Int.le_refl _) b2 hh).2
  unfold mvA at this
  split at this
  · omega
  · rw [if_pos rfl] at this; omega
theorem MrgOk.cs_bot {rs : List RowD} {a : A4} (h : MrgOk rs a) {s : Int × Int} (h1 : s.1 < a.r) (h2 : a.l < s.2) : ¬ CS (mrgT rs a) s a.b := by
  obtain ⟨b1, b2, b3, b4, b5, b6⟩ := h.b
  rw [CS_HS]
  rintro ⟨hh, g, hg, hg2⟩
  obtain ⟨e1, e2⟩ := h.over h1 h2 (by omega) (by omega) hg
  by_cases hb : a.b > a.t + 1
  · obtain ⟨g', x, y⟩ := (h.at hb).1 hh
    by_cases hc : s = (a.l, a.r) ∧ g' = 2
    · rw [if_pos hc] at y; omega
    · rw [if_neg hc] at y; exact hc ⟨e1, y.symm⟩
  · unfold mvA at e2
    rw [if_pos (by omega)] at e2
    omega
theorem MrgOk.cs_far {rs : List RowD} {a : A4} (h : MrgOk rs a) {s : Int × Int} {i : Int} (hi : i < a.t ∨ a.b < i) : CS (mrgT rs a) s i ↔ CS rs s i := by
  obtain ⟨b1, b2, b3, b4, b5, b6⟩ := h.b
  rw [CS_HS, CS_HS, h.out (by omega) (by omega)]
  by_cases hb : i - 1 = a.b ∧ a.b > a.t + 1
  · rw [hb.1]
    refine and_congr_right fun _ => ?_
    constructor
    · rintro ⟨g, x, y⟩
      obtain ⟨g', x1, x2⟩ := (h.at hb.2).1 x
      refine ⟨g', x1, ?_⟩
      by_cases hc : s = (a.l, a.r) ∧ g' = 2
      · omega
      · rw [if_neg hc] at x2; omega
    · rintro ⟨g, x, y⟩
      refine ⟨_, (h.at hb.2).2 ⟨g, x, rfl⟩, ?_⟩
      split <;> omega
  · refine and_congr_right fun _ => ?_
    constructor
    · rintro ⟨g, x, y⟩; exact ⟨g, (h.out (by omega) hb).1 x, y⟩
    · rintro ⟨g, x, y⟩; exact ⟨g, (h.out (by omega) hb).2 x, y⟩
theorem bot_same {m rs : List RowD} {s : Int × Int} {i : Nat} {e : Int} (hl : m.length = rs.length) (hi : i < rs.length) (he : (i : Int) < e) (h1 : ¬ CS m s e) (h2 : ¬ CS rs s e) (h : ∀ j : Int, i < j → j < e → (CS m s j ↔ CS rs s j)) :
    botN m s (i + 1) (m.length - (i + 1)) = botN rs s (i + 1) (rs.length - (i + 1)) := by
  obtain ⟨m1, m2, m3, m4⟩ := botN_spec m s (m.length - (i + 1)) (i + 1) (by omega)
  obtain ⟨r1, r2, r3, r4⟩ := botN_spec rs s (rs.length - (i + 1)) (i + 1) (by omega)
  generalize botN m s (i + 1) (m.length - (i + 1)) = x at *
  generalize botN rs s (i + 1) (rs.length - (i + 1)) = y at *
  have hx : (x : Int) ≤ e := Int.not_lt.1 fun hh => h1 (m2 e (by omega) hh)
  have hy : (y : Int) ≤ e := Int.not_lt.1 fun hh => h2 (r2 e (by omega) hh)
  rcases Nat.lt_trichotomy x y with hh | hh | hh
  · exact absurd ((h x (by omega) (by omega)).2 (r2 x (by omega) (by omega))) m3
  · exact hh
  · exact absurd ((h y (by omega) (by omega)).1 (m2 y (by omega) (by omega))) r3
theorem CS_len {rs : List RowD} {s : Int × Int} : ¬ CS rs s rs.length := fun h => by have := h.lt; omega
theorem MrgOk.fa {rs : List RowD} {a : A4} (h : MrgOk rs a) {s : Int × Int} (hs : s.1 ≤ s.2) {i : Nat} (hi : i < rs.length) (ho : ¬ (a.t ≤ (i : Int) ∧ (i : Int) < a.b) ∨ s.1 = s.2 ∨ s.2 ≤ a.l ∨ a.r ≤ s.1) : FA (mrgT rs a) i s = FA rs i s := by
  obtain ⟨b1, b2, b3, b4, b5, b6⟩ := h.b
  unfold FA
  by_cases hne : s.1 = s.2
  · rw [if_neg (fun x => x.1 hne), if_neg (fun x => x.1 hne)]
  · have key : (CS (mrgT rs a) s i ↔ CS rs s i) ∧ botN (mrgT rs a) s (i + 1) ((mrgT rs a).length - (i + 1)) = botN rs s (i + 1) (rs.length - (i + 1)) := by
      by_cases hd : s.2 ≤ a.l ∨ a.r ≤ s.1
      · exact ⟨h.cs_side (by omega) hd _, bot_same (e := rs.length) (mrgT_len rs a) hi (by omega) (by rw [← mrgT_len rs a]; exact CS_len) CS_len fun j _ _ => h.cs_side (by omega) hd j⟩
      · by_cases ht : (i : Int) < a.t
        · exact ⟨h.cs_far (.inl ht), bot_same (e := a.t) (mrgT_len rs a) hi ht (h.cs_top (by omega) (by omega)) (h.border (by omega) (by omega)).1 fun j _ hj => h.cs_far (.inl hj)⟩
        · refine ⟨?_, bot_same (e := rs.length) (mrgT_len rs a) hi (by omega) (by rw [← mrgT_len rs a]; exact CS_len) CS_len fun j hj _ => h.cs_far (.inr (by omega))⟩
          rcases Int.lt_or_eq_of_le (show a.b ≤ (i : Int) by omega) with hb | hb
          · exact h.cs_far (.inr hb)
          · rw [← hb]
            exact ⟨fun x => absurd x (h.cs_bot (by omega) (by omega)), fun x => absurd x (h.border (by omega) (by omega)).2⟩
    rw [key.2]
    by_cases hc : CS rs s i
    · rw [if_neg (fun x => x.2 (key.1.2 hc)), if_neg (fun x => x.2 hc)]
    · rw [if_pos ⟨hne, fun x => hc (key.1.1 x)⟩, if_pos ⟨hne, hc⟩]
theorem MrgOk.fa_in {rs : List RowD} {a : A4} (h : MrgOk rs a) {i : Nat} (h1 : a.t ≤ (i : Int)) (h2 : (i : Int) < a.b) : FA (mrgT rs a) i (a.l, a.r) = if (i : Int) = a.t then some a else none := by
  obtain ⟨b1, b2, b3, b4, b5, b6⟩ := h.b
  have hcs : ∀ j : Int, a.t < j → j < a.b → CS (mrgT rs a) (a.l, a.r) j := fun j x y => by
    rw [CS_HS]
    have e1 : mvA a j = 2 := by unfold mvA; rw [if_neg (by omega), if_neg (by omega)]
    refine ⟨(h.in (by omega) y).2 (.inr ⟨rfl, e1.symm⟩), mvA a (j - 1), (h.in (by omega) (by omega)).2 (.inr ⟨rfl, rfl⟩), ?_⟩
    unfold mvA
    rw [if_neg (by omega)]
    split <;> omega
  unfold FA
  by_cases ht : (i : Int) = a.t
  · rw [if_pos ht, if_pos ⟨by dsimp only; omega, by rw [ht]; exact h.cs_top (by dsimp only; omega) (by dsimp only; omega)⟩]
    obtain ⟨m1, m2, m3, m4⟩ := botN_spec (mrgT rs a) (a.l, a.r) ((mrgT rs a).length - (i + 1)) (i + 1) (by rw [mrgT_len]; omega)
    have hb : (botN (mrgT rs a) (a.l, a.r) (i + 1) ((mrgT rs a).length - (i + 1)) : Int) = a.b :=
      bot_unique (r := (i : Int)) (by omega) (fun j x y => m2 j (by omega) y) m3 h2 (fun j x y => hcs j (by omega) y) (h.cs_bot (by dsimp only; omega) (by dsimp only; omega))
    rw [hb, ht]
  · rw [if_neg ht, if_neg (fun x => x.2 (hcs i (by omega) h2))]
def outB (a x : A4) : Bool := decide (x.t < a.t ∨ x.t ≥ a.b ∨ x.l < a.l ∨ x.l ≥ a.r)
theorem FA_t {rs : List RowD} {i : Nat} {s : Int × Int} {x : A4} (h : FA rs i s = some x) : x.t = i ∧ x.l = s.1 ∧ s.1 ≠ s.2 := by
  unfold FA at h
  split at h
  · rename_i hc
    cases h; exact ⟨rfl, rfl, hc.1⟩
  · cases h
theorem FA_filter (rs : List RowD) (i : Nat) (a : A4) (s : Int × Int) : (FA rs i s).filter (outB a) = if ¬ (a.t ≤ (i : Int) ∧ (i : Int) < a.b) ∨ s.1 = s.2 ∨ s.1 < a.l ∨ a.r ≤ s.1 then FA rs i s else none := by
  cases he : FA rs i s with
  | none => split <;> rfl
  | some x =>
    obtain ⟨x1, x2, x3⟩ := FA_t he
    unfold outB
    simp only [Option.filter_some, decide_eq_true_eq]
    rw [x1, x2]
    by_cases hc : ¬ (a.t ≤ (i : Int) ∧ (i : Int) < a.b) ∨ s.1 = s.2 ∨ s.1 < a.l ∨ a.r ≤ s.1
    · rw [if_pos hc, if_pos (by omega)]
    · rw [if_neg hc, if_neg (by omega)]
theorem rowA_filter (rs : List RowD) (i : Nat) (a : A4) : (rowA rs i).filter (outB a) = (glF 0 (rAt rs i).cells).filterMap fun p => (FA rs i p.1).filter (outB a) := by
  unfold rowA
  rw [List.filter_filterMap]
theorem MrgOk.row_out {rs : List RowD} {a : A4} (h : MrgOk rs a) {i : Nat} (hi : i < rs.length) (ho : ¬ (a.t ≤ (i : Int) ∧ (i : Int) < a.b)) : rowA (mrgT rs a) i = (rowA rs i).filter (outB a) := by
  have hg : (glF 0 (rAt (mrgT rs a) i).cells).map Prod.fst = (glF 0 (rAt rs i).cells).map Prod.fst := by
    rw [mrgT_row rs a i (by omega) (by omega)]
    unfold mrgI
    rw [if_neg ho]
    split
    · rw [glFix, List.map_map]
      refine List.map_congr_left fun p _ => ?_
      simp only [Function.comp, gX]
      split <;> rfl
    · rfl
  rw [rowA_filter]
  unfold rowA
  have e1 : ∀ (l : List ((Int × Int) × Int)) (f : Int × Int → Option A4), (l.filterMap fun p => f p.1) = (l.map Prod.fst).filterMap f := fun l f => by rw [List.filterMap_map]; rfl
  rw [e1 _ (FA (mrgT rs a) i), hg, ← e1]
  refine filterMap_eq fun p hp => ?_
  rw [FA_filter, if_pos (.inl ho)]
  exact h.fa (glF_mono _ 0 (by omega) p hp).2.1 hi (.inl ho)
theorem MrgOk.row_in {rs : List RowD} {a : A4} (h : MrgOk rs a) {i : Nat} (h1 : a.t ≤ (i : Int)) (h2 : (i : Int) < a.b) : rowA (mrgT rs a) i = (glF 0 (rAt rs i).cells).filterMap fun p => if p.1.1 = a.l ∧ p.1.1 ≠ p.1.2 then (if (i : Int) = a.t then some a else none) else (FA rs i p.1).filter (outB a) := by
  obtain ⟨b1, b2, b3, b4, b5, b6⟩ := h.b
  unfold rowA
  rw [h.gl h1 h2, List.filterMap_filterMap]
  refine filterMap_eq fun p hp => ?_
  obtain ⟨p0, p1, p2⟩ := glF_mono _ 0 (by omega) p hp
  rw [FA_filter]
  unfold gM
  by_cases hk : p.1.1 < a.l ∨ p.1.1 ≥ a.r ∨ p.1.1 = p.1.2
  · have hcl : p.1.1 ≠ p.1.2 → p.1.2 ≤ a.l ∨ a.r ≤ p.1.1 ∨ (a.l ≤ p.1.1 ∧ p.1.2 ≤ a.r) := fun hne => h.closed h1 h2 (HS_mem.2 ⟨by omega, by omega, hne, hp⟩)
    rw [if_pos hk, if_neg (by omega), if_pos (by omega)]
    exact h.fa p1 (by omega) (.inr (by by_cases hne : p.1.1 = p.1.2; exact .inl hne; have := hcl hne; omega))
  · rw [if_neg hk]
    by_cases hl : p.1.1 > a.l
    · rw [if_pos hl, if_neg (by omega), if_neg (by omega)]; rfl
    · rw [if_neg hl, if_pos (by omega)]
      exact h.fa_in h1 h2
theorem MrgOk.row_rest {rs : List RowD} {a : A4} (h : MrgOk rs a) {i : Nat} (h1 : a.t < (i : Int)) (h2 : (i : Int) < a.b) : rowA (mrgT rs a) i = (rowA rs i).filter (outB a) := by
  obtain ⟨b1, b2, b3, b4, b5, b6⟩ := h.b
  rw [h.row_in (by omega) h2, rowA_filter]
  refine filterMap_eq fun p hp => ?_
  by_cases hc : p.1.1 = a.l ∧ p.1.1 ≠ p.1.2
  · rw [if_pos hc, if_neg (by omega), FA_filter, if_neg (by omega)]
  · rw [if_neg hc]
theorem MrgOk.row_first {rs : List RowD} {a : A4} (h : MrgOk rs a) {i : Nat} (h1 : (i : Int) = a.t) : ∃ X Y, rowA (mrgT rs a) i = X ++ a :: Y ∧ (rowA rs i).filter (outB a) = X ++ Y := by
  obtain ⟨b1, b2, b3, b4, b5, b6⟩ := h.b
  rw [h.row_in (by omega) (by omega), rowA_filter]
  obtain ⟨k, hv, y1, y2⟩ := h.first (i := (i : Int)) (by omega) (by omega)
  obtain ⟨_, _, x3, x4⟩ := HS_mem.1 (show HS rs i (spN rs i k) (mgN rs i k) from ⟨k, hv, rfl, rfl⟩)
  obtain ⟨P, S, hps⟩ := List.append_of_mem x4
  have hso := glF_sorted (rAt rs i).cells 0 (by omega)
  have hmo := glF_mono (rAt rs i).cells 0 (by omega)
  rw [hps] at hso hmo ⊢
  have hlt := hv.lt
  obtain ⟨s1, s2, s3⟩ := List.pairwise_append.1 hso
  have s4 := (List.pairwise_cons.1 s2).1
  refine ⟨P.filterMap fun p => (FA rs i p.1).filter (outB a), S.filterMap fun p => (FA rs i p.1).filter (outB a), ?_, ?_⟩
  · rw [List.filterMap_append, List.filterMap_cons]
    have e : (if (spN rs (i : Int) k).1 = a.l ∧ (spN rs (i : Int) k).1 ≠ (spN rs (i : Int) k).2 then (if (i : Int) = a.t then some a else none) else (FA rs i (spN rs i k)).filter (outB a)) = some a := by rw [if_pos ⟨y1, x3⟩, if_pos h1]
    rw [e]
    dsimp only
    congr 1
    · refine filterMap_eq fun p hp => ?_
      have := s3 p hp _ List.mem_cons_self
      have := hmo p (by simp [hp])
      dsimp only at *
      rw [if_neg (by omega)]
    · congr 1
      refine filterMap_eq fun p hp => ?_
      have := s4 p hp
      dsimp only at *
      rw [if_neg (by omega)]
  · rw [List.filterMap_append, List.filterMap_cons]
    have e : (FA rs i (spN rs i k)).filter (outB a) = none := by rw [FA_filter, if_neg (by omega)]
    rw [e]
theorem MrgOk.areas {rs : List RowD} {a : A4} (h : MrgOk rs a) : ∀ n : Nat, n ≤ rs.length →
    ((n : Int) ≤ a.t → allA (mrgT rs a) n = (allA rs n).filter (outB a)) ∧ (a.t < (n : Int) → ∃ X Y, allA (mrgT rs a) n = X ++ a :: Y ∧ (allA rs n).filter (outB a) = X ++ Y)
  | 0, _ => ⟨fun _ => rfl, fun hh => by have := h.b.1; omega⟩
  | n + 1, hn => by
    obtain ⟨b1, b2, b3, b4, b5, b6⟩ := h.b
    obtain ⟨i1, i2⟩ := h.areas n (by omega)
    rw [allA, allA, List.filter_append]
    refine ⟨fun hh => ?_, fun hh => ?_⟩
    · rw [i1 (by omega), h.row_out (by omega) (by omega)]
    · rcases Int.lt_or_eq_of_le (show a.t ≤ (n : Int) by omega) with hl | hl
      · obtain ⟨X, Y, e1, e2⟩ := i2 hl
        have e3 : rowA (mrgT rs a) n = (rowA rs n).filter (outB a) := by
          by_cases hb : (n : Int) < a.b
          · exact h.row_rest hl hb
          · exact h.row_out (by omega) (by omega)
        exact ⟨X, Y ++ (rowA rs n).filter (outB a), by rw [e1, e3, List.append_assoc, List.cons_append], by rw [e2, List.append_assoc]⟩
      · obtain ⟨X, Y, e1, e2⟩ := h.row_first hl.symm
        exact ⟨(allA rs n).filter (outB a) ++ X, Y, by rw [e1, i1 (by omega), List.append_assoc], by rw [e2, List.append_assoc]⟩
theorem MrgOk.rects {rs : List RowD} {a : A4} (h : MrgOk rs a) : ∃ X Y, (layRects (mrgT rs a)).map arQ = X ++ a :: Y ∧ ((layRects rs).map arQ).filter (outB a) = X ++ Y := by
  obtain ⟨b1, b2, b3, b4, b5, b6⟩ := h.b
  rw [rects_areas, rects_areas, mrgT_len]
  exact (h.areas rs.length (Nat.le_refl _)).2 (by omega)
end Go.Ob
set_option linter.unusedVariables false
set_option linter.unusedSimpArgs false
namespace Go.Ob
open Go.Proofs
set_option maxHeartbeats 1000000 in
set_option maxRecDepth 100000 in
theorem RMerge_spec (rs : List RowD) (hr : TabOk rs) (hl : rs.length ≤ 2000) (hP : ∀ r ∈ rs, ∀ c ∈ r.cells, c.props.length ≤ 900) (a : A4) (hM : MrgOk rs a) : Fun Try.prog 35 [.sl 6 (encRs rs), .v (.int .i64 a.t), .v (.int .i64 a.l), .v (.int .i64 a.b), .v (.int .i64 a.r)] (.sl 6 (encRs (mrgT rs a))) := by
  refine Fun.enterF (n := 150) (rs := [.tmp 10]) Try.func35 rfl Try.ntmps35 Try.results35 rfl (fun w F => ?_)
  have hk := encRs_len rs
  obtain ⟨b1, b2, b3, b4, b5, b6⟩ := hM.b
  refine TC.seq ?_
  refine TC.region ?_
  refine TL.run1 (pure_assign rfl) rfl ?_
  refine TL.nil' ?_
  refine TC.seq ?_
  refine TC.region ?_
  refine TL.run1 (pure_assign rfl) rfl ?_
  refine TL.nil' ?_
  refine TC.seq ?_
  refine TC.seq ?_
  refine TC.nilrow 36 6 ?_
  refine TC.region ?_
  refine TL.run1 (pure_assign rfl) rfl ?_
  refine TL.nil' ?_
  refine TC.block ?_
  refine TC.loopX (X := Nat × Value) (fun (i, v) => [(0, .sl 6 (encRs rs)), (1, .v (.int .i64 a.t)), (2, .v (.int .i64 a.l)), (3, .v (.int .i64 a.b)), (4, .v (.int .i64 a.r)), (11, .v v), (12, .v (.int .i64 i))]) (fun (i, v) => [.row v 36 6 (encRs ((mrgT rs a).take i))]) (fun (i, v) => (i ≤ rs.length)) (fun (i, v) => rs.length - i) (0, .slice none 0 0) ⟨by skip; repeat (first | exact Agree.nil | refine Agree.cons rfl ?_), by skip; repeat (first | exact List.nil_sublist _ | exact List.Sublist.refl _ | apply List.Sublist.cons_cons | apply List.Sublist.cons)⟩ ?_ ?_
  · skip
    exact Nat.zero_le _
  rintro ⟨i, v⟩
  intro h1
  show TC _ _ _ (Env.of [(0, .sl 6 (encRs rs)), (1, .v (.int .i64 a.t)), (2, .v (.int .i64 a.l)), (3, .v (.int .i64 a.b)), (4, .v (.int .i64 a.r)), (11, .v v), (12, .v (.int .i64 i))]) [.row v 36 6 (encRs ((mrgT rs a).take i))]
  refine TC.seq ?_
  refine TC.seq ?_
  refine TC.region ?_
  refine TL.run1 (pure_move rfl) rfl ?_
  refine TL.run1 (pure_move rfl) rfl ?_
  first | refine TL.run1 (pure_len Ty.sl22 rfl) rfl ?_ | refine TL.run1 (pure_len_row Ty.sl22 rfl (by repeat (first | exact List.Mem.head _ | apply List.Mem.tail))) rfl ?_ | refine TL.run1 (pure_len_nil Ty.sl22 rfl) rfl ?_
  refine TL.run1 (pure_lss rfl rfl) rfl ?_
  refine TL.nil' ?_
  first | refine TC.condD rfl (fun hc24 => ?_) (fun hc24 => ?_) | refine TC.condN rfl (fun hc24 => ?_) (fun hc24 => ?_) | refine TC.cond rfl (fun hc24 => ?_) (fun hc24 => ?_)
  · try dsimp only at hc24
    refine TC.skip' ?_
    refine TC.seq ?_
    refine TC.block ?_
    refine TC.seq ?_
    have hil : i < rs.length := by omega
    have hrow := encRs_get rs (i : Int) (by omega) (by omega)
    have hro := hr.1 (rAt rs (i : Nat)) (rAt_mem rs (i : Int) (by omega) (by omega))
    have hrl := hro.2.2
    have hck := encCs_len (rAt rs (i : Nat)).cells
    have hsk := encRs_len ((mrgT rs a).take i)
    have hsl : ((mrgT rs a).take i).length ≤ i := List.length_take_le _ _
    have hfr := fix_row (rs := rs) (a := a) (i := (i : Int)) (by omega) (by omega) b5
    refine TC.region ?_
    refine TL.run1 (pure_move rfl) rfl ?_
    refine TL.run1 (pure_move rfl) rfl ?_
    refine TL.run1 (pure_indexAddr Ty.sl22 rfl rfl (by omega) hrow (by simp [encR])) rfl ?_
    first | refine TL.run1 (pure_load Ty.agg36 rfl (.succ (.succ (.succ (.succ (.succ (.succ (.zero _)))))))) rfl ?_ | refine TL.run1 (pure_load_own Ty.agg36 rfl (by repeat (first | exact List.Mem.head _ | apply List.Mem.tail)) (by repeat (first | exact DropR.zero _ | apply DropR.succ)) (.succ (.succ (.succ (.succ (.succ (.succ (.zero _)))))))) rfl ?_
    refine TL.alloc Ty.zero36 rfl (fun g13 => ?_)
    refine TL.store rfl rfl (.agg _) Try.sizeOf36 rfl (by repeat (first | exact UpdR.here _ | apply UpdR.there)) (by repeat (first | exact PutR.nil _ | apply PutR.here | apply PutR.skip)) ?_
    refine TL.nil' ?_
    refine TC.seq ?_
    refine TC.regionCut [31, 32, 33, 34, 35, 36, 37, 38, 39] 39 ((i : Int) = a.b ∧ a.b > a.t + 1) ?_ ?_
    · skip
      refine TL.run1 (pure_move rfl) rfl ?_
      refine TL.run1 (pure_move rfl) rfl ?_
      refine TL.run1 (pure_eql rfl rfl) rfl ?_
      refine TL.run1 (pure_move rfl) rfl ?_
      first | refine TL.splitP 34 rfl (fun hg34 => ?_) (fun hg34 => ?_) | refine TL.split 34 rfl (fun hg34 => ?_) (fun hg34 => ?_)
      · try dsimp only at hg34
        refine TL.runG rfl rfl (pure_move rfl) rfl ?_
        refine TL.runG rfl rfl (pure_move rfl) rfl ?_
        refine TL.runG rfl rfl (pure_add rfl rfl (mkI64 (by omega) (by omega))) rfl ?_
        refine TL.runG rfl rfl (pure_gtr rfl rfl) rfl ?_
        refine TL.run1 (pure_pick_true rfl rfl) rfl ?_
        refine TL.cutEnd (by repeat (first | exact Same.refl _ _ | refine Same.put rfl ?_)) rfl ?_
        first | (simp only [decide_eq_true_eq, Bool.false_eq_true, false_iff, true_iff, iff_true, iff_false, Bool.not_eq_true]; omega) | (simp_all; done) | (simp_all; omega) | grind
      · try dsimp only at hg34
        refine TL.passG rfl rfl rfl rfl ?_
        refine TL.passG rfl rfl rfl rfl ?_
        refine TL.passG rfl rfl rfl rfl ?_
        refine TL.passG rfl rfl rfl rfl ?_
        refine TL.run1 (pure_pick_false rfl rfl) rfl ?_
        refine TL.cutEnd (by repeat (first | exact Same.refl _ _ | refine Same.put rfl ?_)) rfl ?_
        first | (simp only [decide_eq_true_eq, Bool.false_eq_true, false_iff, true_iff, iff_true, iff_false, Bool.not_eq_true]; omega) | (simp_all; done) | (simp_all; omega) | grind
    first | refine TC.condD rfl (fun hc39 => ?_) (fun hc39 => ?_) | refine TC.condN rfl (fun hc39 => ?_) (fun hc39 => ?_) | refine TC.cond rfl (fun hc39 => ?_) (fun hc39 => ?_)
    · try dsimp only at hc39
      refine TC.seq ?_
      refine TC.region ?_
      first | refine TL.run1 (pure_load Ty.agg36 rfl (.succ (.succ (.succ (.succ (.succ (.succ (.zero _)))))))) rfl ?_ | refine TL.run1 (pure_load_own Ty.agg36 rfl (by repeat (first | exact List.Mem.head _ | apply List.Mem.tail)) (by repeat (first | exact DropR.zero _ | apply DropR.succ)) (.succ (.succ (.succ (.succ (.succ (.succ (.zero _)))))))) rfl ?_
      refine TL.run1 (pure_move rfl) rfl ?_
      refine TL.run1 (pure_move rfl) rfl ?_
      refine TL.run1 (pure_call (Same_spec (rAt rs (i : Nat)) hro _ _) (.cons rfl (.cons rfl (.cons rfl .nil))) Try.call48) rfl ?_
      refine TL.run1 (pure_assign rfl) rfl ?_
      refine TL.nil' ?_
      refine TC.regionCut [44, 45, 46, 47, 48, 49, 50, 51] 51 (0 ≤ (sameN (rAt rs (i : Nat)) a.l a.r) ∧ getP (cAt (rAt rs (i : Nat)).cells (sameN (rAt rs (i : Nat)) a.l a.r)).props 61 0 = 2) ?_ ?_
      · skip
        refine TL.run1 (pure_move rfl) rfl ?_
        refine TL.run1 (pure_geq rfl rfl) rfl ?_
        refine TL.run1 (pure_move rfl) rfl ?_
        first | refine TL.splitP 46 rfl (fun hg46 => ?_) (fun hg46 => ?_) | refine TL.split 46 rfl (fun hg46 => ?_) (fun hg46 => ?_)
        · try dsimp only at hg46
          first | refine TL.runG rfl rfl (pure_load Ty.agg36 rfl (.succ (.succ (.succ (.succ (.succ (.succ (.zero _)))))))) rfl ?_ | refine TL.runG rfl rfl (pure_load_own Ty.agg36 rfl (by repeat (first | exact List.Mem.head _ | apply List.Mem.tail)) (by repeat (first | exact DropR.zero _ | apply DropR.succ)) (.succ (.succ (.succ (.succ (.succ (.succ (.zero _)))))))) rfl ?_
          refine TL.runG rfl rfl (pure_move rfl) rfl ?_
          refine TL.runG rfl rfl (pure_call (merge_spec (rAt rs (i : Nat)) hro (sameN (rAt rs (i : Nat)) a.l a.r) (by omega) (sameN_lt (by omega))) (.cons rfl (.cons rfl .nil)) Try.call53) rfl ?_
          refine TL.runG rfl rfl (pure_eql rfl rfl) rfl ?_
          refine TL.run1 (pure_pick_true rfl rfl) rfl ?_
          refine TL.cutEnd (by repeat (first | exact Same.refl _ _ | refine Same.put rfl ?_)) rfl ?_
          first | (simp only [decide_eq_true_eq, Bool.false_eq_true, false_iff, true_iff, iff_true, iff_false, Bool.not_eq_true]; omega) | (simp_all; done) | (simp_all; omega) | grind
        · try dsimp only at hg46
          refine TL.passG rfl rfl rfl rfl ?_
          refine TL.passG rfl rfl rfl rfl ?_
          refine TL.passG rfl rfl rfl rfl ?_
          refine TL.passG rfl rfl rfl rfl ?_
          refine TL.run1 (pure_pick_false rfl rfl) rfl ?_
          refine TL.cutEnd (by repeat (first | exact Same.refl _ _ | refine Same.put rfl ?_)) rfl ?_
          first | (simp only [decide_eq_true_eq, Bool.false_eq_true, false_iff, true_iff, iff_true, iff_false, Bool.not_eq_true]; omega) | (simp_all; done) | (simp_all; omega) | grind
      first | refine TC.condD rfl (fun hc51 => ?_) (fun hc51 => ?_) | refine TC.condN rfl (fun hc51 => ?_) (fun hc51 => ?_) | refine TC.cond rfl (fun hc51 => ?_) (fun hc51 => ?_)
      · try dsimp only at hc51
        obtain ⟨mn, hmn⟩ : ∃ mn : Nat, (sameN (rAt rs (i : Nat)) a.l a.r) = (mn : Int) := ⟨(sameN (rAt rs (i : Nat)) a.l a.r).toNat, by omega⟩
        have hsl2 : (sameN (rAt rs (i : Nat)) a.l a.r) < (rAt rs (i : Nat)).cells.length := sameN_lt (by omega)
        have hfx := hfr.1 hc51
        rw [hmn, Int.toNat_natCast] at hfx
        rw [hmn] at hc51 hsl2
        rw [hmn]
        have hml : mn < (rAt rs (i : Nat)).cells.length := by omega
        have hxm : (encCs (rAt rs (i : Nat)).cells)[mn]? = some (encC (cAt (rAt rs (i : Nat)).cells (mn : Nat))) := by (have := encCs_get (rAt rs (i : Nat)).cells (mn : Int) (by omega) (by omega); rwa [Int.toNat_natCast] at this)
        have hcm := (hro.1 (cAt (rAt rs (i : Nat)).cells (mn : Nat)) (cAt_mem (rAt rs (i : Nat)).cells (mn : Int) (by omega) (by omega))).1
        have hcp := hP (rAt rs (i : Nat)) (rAt_mem rs (i : Int) (by omega) (by omega)) (cAt (rAt rs (i : Nat)).cells (mn : Nat)) (cAt_mem (rAt rs (i : Nat)).cells (mn : Int) (by omega) (by omega))
        refine TC.seq ?_
        refine TC.region ?_
        refine TL.buildRow (xs := []) (ys := []) Ty.app34 (by decide) rfl rfl .nil rfl (fun v52 hv52 => ?_)
        first | refine TL.run1 (pure_fieldAddr Ty.f36_1 rfl (.succ (.succ (.succ (.succ (.succ (.zero _)))))) (List.cons_ne_nil _ _)) rfl ?_ | refine TL.run1 (pure_fieldAddr_own Ty.f36_1 rfl) rfl ?_
        first | refine TL.run1 (pure_load1 Ty.one34 rfl) rfl ?_ | refine TL.run1 (pure_load1_own Ty.one34 rfl (by repeat (first | exact List.Mem.head _ | apply List.Mem.tail)) (by repeat (first | exact DropR.zero _ | apply DropR.succ))) rfl ?_
        refine TL.append Ty.app34 rfl rfl (by intro _; repeat (first | exact UpdR.here _ | apply UpdR.there)) (by simp only [List.length_append, List.length_cons, List.length_nil]; omega) (by simp only [List.length_append, List.length_cons, List.length_nil]; omega) rfl (fun v55 hv55 => ?_)
        first | refine TL.run1 (pure_fieldAddr Ty.f36_1 rfl (.succ (.succ (.succ (.succ (.succ (.zero _)))))) (List.cons_ne_nil _ _)) rfl ?_ | refine TL.run1 (pure_fieldAddr_own Ty.f36_1 rfl) rfl ?_
        refine TL.store rfl rfl (.one (by first | rfl | assumption)) Try.sizeOf34 rfl (by repeat (first | exact UpdR.here _ | apply UpdR.there)) (by repeat (first | exact PutR.nil _ | apply PutR.here | apply PutR.skip)) ?_
        refine TL.nil' ?_
        simp only [List.nil_append]
        refine TC.rowGrown (v := v55) (.head _) (by omega) (fun g55 cap55 hv => ?_)
        subst hv
        refine TC.drawTailN 14 Ty.follows (by kernel_rfl) (by kernel_rfl) ?_
        simp only [List.take_succ_cons, List.take_zero, List.drop_succ_cons, List.drop_zero]
        first | refine TD.run1 (pure_fieldAddr Ty.f36_1 rfl (.succ (.succ (.succ (.succ (.succ (.zero _)))))) (List.cons_ne_nil _ _)) rfl ?_ | refine TD.run1 (pure_fieldAddr_own Ty.f36_1 rfl) rfl ?_
        first | refine TD.run1 (pure_load1 Ty.one34 rfl) rfl ?_ | refine TD.run1 (pure_load1_own Ty.one34 rfl (by repeat (first | exact List.Mem.head _ | apply List.Mem.tail)) (by repeat (first | exact DropR.zero _ | apply DropR.succ))) rfl ?_
        refine TD.run1 (pure_move rfl) rfl ?_
        first | refine TD.run1 (pure_fieldAddr Ty.f36_1 rfl (.succ (.succ (.succ (.succ (.succ (.zero _)))))) (List.cons_ne_nil _ _)) rfl ?_ | refine TD.run1 (pure_fieldAddr_own Ty.f36_1 rfl) rfl ?_
        first | refine TD.run1 (pure_load1 Ty.one34 rfl) rfl ?_ | refine TD.run1 (pure_load1_own Ty.one34 rfl (by repeat (first | exact List.Mem.head _ | apply List.Mem.tail)) (by repeat (first | exact DropR.zero _ | apply DropR.succ))) rfl ?_
        refine TD.run1 (pure_move rfl) rfl ?_
        refine TD.run1 (pure_indexOwn Ty.sl34 rfl rfl (by omega) (by omega)) rfl ?_
        first | refine TD.run1 (pure_fieldAddr Ty.f74_1 rfl (.succ (.zero _)) (List.cons_ne_nil _ _)) rfl ?_ | refine TD.run1 (pure_fieldAddr_own Ty.f74_1 rfl) rfl ?_
        first | refine TD.run1 (pure_fieldAddr Ty.f33_0 rfl (.zero _) (List.cons_ne_nil _ _)) rfl ?_ | refine TD.run1 (pure_fieldAddr_own Ty.f33_0 rfl) rfl ?_
        refine TD.run1 (pure_load1_row (es := 7) (i := mn) (o := 1) Ty.one27 (by decide) rfl rfl (by repeat (first | exact List.Mem.head _ | apply List.Mem.tail)) (by omega) hxm (by repeat (first | exact DropR.zero _ | apply DropR.succ))) rfl ?_
        first | refine TD.run1 (pure_call (setPut_spec (cAt (rAt rs (i : Nat)).cells (mn : Nat)).props hcm 61 1 0 (by omega)) (.cons rfl (.cons rfl (.cons rfl (.cons rfl .nil)))) Try.call49) rfl ?_ | refine TD.run1 (pure_call (setPut_spec (cAt (rAt rs (i : Nat)).cells (k : Nat)).props hck1 60 (a.r - a.l) 1 (by omega)) (.cons rfl (.cons rfl (.cons rfl (.cons rfl .nil)))) Try.call49) rfl ?_
        refine TD.run1 (pure_indexOwn Ty.sl34 rfl rfl (by omega) (by omega)) rfl ?_
        first | refine TD.run1 (pure_fieldAddr Ty.f74_1 rfl (.succ (.zero _)) (List.cons_ne_nil _ _)) rfl ?_ | refine TD.run1 (pure_fieldAddr_own Ty.f74_1 rfl) rfl ?_
        first | refine TD.run1 (pure_fieldAddr Ty.f33_0 rfl (.zero _) (List.cons_ne_nil _ _)) rfl ?_ | refine TD.run1 (pure_fieldAddr_own Ty.f33_0 rfl) rfl ?_
        refine TD.nil ?_
        show TL _ _ _ _ _ _
        refine TL.storeRow (es := 7) (i := mn) (o := 1) (c' := encC (putC (cAt (rAt rs (i : Nat)).cells (mn : Nat)) 61 1 0)) rfl rfl (by omega) rfl (.one rfl) Try.sizeOf27 rfl (by repeat (first | exact UpdR.here _ | apply UpdR.there)) hxm (by repeat (first | exact PutR.nil _ | apply PutR.here | apply PutR.skip)) ?_
        rw [← hfx]
        refine TL.nil' ?_
        refine TC.seq ?_
        refine TC.regionCut [71, 72, 73, 74, 75, 76, 77, 78] 78 ((i : Int) < a.t ∨ (i : Int) ≥ a.b) ?_ ?_
        · skip
          refine TL.run1 (pure_move rfl) rfl ?_
          refine TL.run1 (pure_move rfl) rfl ?_
          refine TL.run1 (pure_lss rfl rfl) rfl ?_
          refine TL.run1 (pure_move rfl) rfl ?_
          first | refine TL.splitP 74 rfl (fun hg74 => ?_) (fun hg74 => ?_) | refine TL.split 74 rfl (fun hg74 => ?_) (fun hg74 => ?_)
          · try dsimp only at hg74
            refine TL.passG rfl rfl rfl rfl ?_
            refine TL.passG rfl rfl rfl rfl ?_
            refine TL.passG rfl rfl rfl rfl ?_
            refine TL.run1 (pure_pick_true rfl rfl) rfl ?_
            refine TL.cutEnd (by repeat (first | exact Same.refl _ _ | refine Same.put rfl ?_)) rfl ?_
            first | (simp only [decide_eq_true_eq, Bool.false_eq_true, false_iff, true_iff, iff_true, iff_false, Bool.not_eq_true]; omega) | (simp_all; done) | (simp_all; omega) | grind
          · try dsimp only at hg74
            refine TL.runG rfl rfl (pure_move rfl) rfl ?_
            refine TL.runG rfl rfl (pure_move rfl) rfl ?_
            refine TL.runG rfl rfl (pure_geq rfl rfl) rfl ?_
            refine TL.run1 (pure_pick_false rfl rfl) rfl ?_
            refine TL.cutEnd (by repeat (first | exact Same.refl _ _ | refine Same.put rfl ?_)) rfl ?_
            first | (simp only [decide_eq_true_eq, Bool.false_eq_true, false_iff, true_iff, iff_true, iff_false, Bool.not_eq_true]; omega) | (simp_all; done) | (simp_all; omega) | grind
        first | refine TC.condD rfl (fun hc78 => ?_) (fun hc78 => ?_) | refine TC.condN rfl (fun hc78 => ?_) (fun hc78 => ?_) | refine TC.cond rfl (fun hc78 => ?_) (fun hc78 => ?_)
        · try dsimp only at hc78
          refine TC.seq ?_
          refine TC.region ?_
          refine TL.run1 (pure_move rfl) rfl ?_
          refine TL.run1 (pure_load_own Ty.agg36 rfl (by repeat (first | exact List.Mem.head _ | apply List.Mem.tail)) (by repeat (first | exact DropR.zero _ | apply DropR.succ)) (.succ (.succ (.succ (.succ (.succ (.succ (.zero _)))))))) rfl ?_
          refine TL.frzRow 80 (.here _) (d' := .agg (encR (fixR a (rAt rs (i : Nat))))) rfl (fun M hM => (.aggL (.cons (.same _) (.cons (.same _) (.cons (.same _) (.cons (.same _) (.cons (.same _) (.cons (.rowS hM (by decide) (encCs_each _)) .nil)))))))) ?_
          refine TL.run1 (pure_buildSlice (xs := [.tmp 80]) Ty.app22 (by decide) rfl rfl (.cons rfl (.agg _) rfl .nil)) rfl ?_
          refine TL.append Ty.app22 rfl rfl (by intro _; repeat (first | exact UpdR.here _ | apply UpdR.there)) (by simp only [List.length_append, List.length_cons, List.length_nil]; omega) (by simp only [List.length_append, List.length_cons, List.length_nil]; omega) rfl (fun v82 hv82 => ?_)
          refine TL.run1 (pure_assign rfl) rfl ?_
          refine TL.nil' ?_
          refine TC.exit ?_
          refine then_exit ?_
          refine block_here ?_
          refine then_normal ?_
          refine TC.region ?_
          refine TL.run1 (pure_move rfl) rfl ?_
          refine TL.run1 (pure_add rfl rfl (mkI64 (by omega) (by omega))) rfl ?_
          refine TL.run1 (pure_assign rfl) rfl ?_
          refine TL.nil ?_
          have hmI : mrgI rs a (i : Nat) = fixR a (rAt rs (i : Nat)) := by (unfold mrgI; rw [if_neg (by omega), if_pos hc39])
          have hst := mrgT_step rs a i hil
          rw [hmI] at hst
          refine loop_next (i + 1, v82) ⟨by ((try dsimp only); rw [show (((i + 1 : Nat)) : Int) = (i : Int) + 1 by omega]; repeat (first | exact Agree.nil | refine Agree.cons rfl ?_)), by (try dsimp only); rw [hst]; repeat (first | exact List.nil_sublist _ | exact List.Sublist.refl _ | apply List.Sublist.cons_cons | apply List.Sublist.cons)⟩ (show i + 1 ≤ _ by omega) (by (try dsimp only); omega)
        · try dsimp only at hc78
          exact absurd (.inr (by omega)) hc78
      · try dsimp only at hc51
        refine TC.skip' ?_
        refine TC.seq ?_
        refine TC.regionCut [71, 72, 73, 74, 75, 76, 77, 78] 78 ((i : Int) < a.t ∨ (i : Int) ≥ a.b) ?_ ?_
        · skip
          refine TL.run1 (pure_move rfl) rfl ?_
          refine TL.run1 (pure_move rfl) rfl ?_
          refine TL.run1 (pure_lss rfl rfl) rfl ?_
          refine TL.run1 (pure_move rfl) rfl ?_
          first | refine TL.splitP 74 rfl (fun hg74 => ?_) (fun hg74 => ?_) | refine TL.split 74 rfl (fun hg74 => ?_) (fun hg74 => ?_)
          · try dsimp only at hg74
            refine TL.passG rfl rfl rfl rfl ?_
            refine TL.passG rfl rfl rfl rfl ?_
            refine TL.passG rfl rfl rfl rfl ?_
            refine TL.run1 (pure_pick_true rfl rfl) rfl ?_
            refine TL.cutEnd (by repeat (first | exact Same.refl _ _ | refine Same.put rfl ?_)) rfl ?_
            first | (simp only [decide_eq_true_eq, Bool.false_eq_true, false_iff, true_iff, iff_true, iff_false, Bool.not_eq_true]; omega) | (simp_all; done) | (simp_all; omega) | grind
          · try dsimp only at hg74
            refine TL.runG rfl rfl (pure_move rfl) rfl ?_
            refine TL.runG rfl rfl (pure_move rfl) rfl ?_
            refine TL.runG rfl rfl (pure_geq rfl rfl) rfl ?_
            refine TL.run1 (pure_pick_false rfl rfl) rfl ?_
            refine TL.cutEnd (by repeat (first | exact Same.refl _ _ | refine Same.put rfl ?_)) rfl ?_
            first | (simp only [decide_eq_true_eq, Bool.false_eq_true, false_iff, true_iff, iff_true, iff_false, Bool.not_eq_true]; omega) | (simp_all; done) | (simp_all; omega) | grind
        first | refine TC.condD rfl (fun hc78 => ?_) (fun hc78 => ?_) | refine TC.condN rfl (fun hc78 => ?_) (fun hc78 => ?_) | refine TC.cond rfl (fun hc78 => ?_) (fun hc78 => ?_)
        · try dsimp only at hc78
          refine TC.seq ?_
          refine TC.region ?_
          refine TL.run1 (pure_move rfl) rfl ?_
          refine TL.run1 (pure_load_own Ty.agg36 rfl (by repeat (first | exact List.Mem.head _ | apply List.Mem.tail)) (by repeat (first | exact DropR.zero _ | apply DropR.succ)) (.succ (.succ (.succ (.succ (.succ (.succ (.zero _)))))))) rfl ?_
          refine TL.run1 (pure_buildSlice (xs := [.tmp 80]) Ty.app22 (by decide) rfl rfl (.cons rfl (.agg _) rfl .nil)) rfl ?_
          refine TL.append Ty.app22 rfl rfl (by intro _; repeat (first | exact UpdR.here _ | apply UpdR.there)) (by simp only [List.length_append, List.length_cons, List.length_nil]; omega) (by simp only [List.length_append, List.length_cons, List.length_nil]; omega) rfl (fun v82 hv82 => ?_)
          refine TL.run1 (pure_assign rfl) rfl ?_
          refine TL.nil' ?_
          refine TC.exit ?_
          refine then_exit ?_
          refine block_here ?_
          refine then_normal ?_
          refine TC.region ?_
          refine TL.run1 (pure_move rfl) rfl ?_
          refine TL.run1 (pure_add rfl rfl (mkI64 (by omega) (by omega))) rfl ?_
          refine TL.run1 (pure_assign rfl) rfl ?_
          refine TL.nil ?_
          have hmI : mrgI rs a (i : Nat) = (rAt rs (i : Nat)) := by (unfold mrgI; rw [if_neg (by omega), if_pos hc39]; exact hfr.2 hc51)
          have hst := mrgT_step rs a i hil
          rw [hmI] at hst
          refine loop_next (i + 1, v82) ⟨by ((try dsimp only); rw [show (((i + 1 : Nat)) : Int) = (i : Int) + 1 by omega]; repeat (first | exact Agree.nil | refine Agree.cons rfl ?_)), by (try dsimp only); rw [hst]; repeat (first | exact List.nil_sublist _ | exact List.Sublist.refl _ | apply List.Sublist.cons_cons | apply List.Sublist.cons)⟩ (show i + 1 ≤ _ by omega) (by (try dsimp only); omega)
        · try dsimp only at hc78
          exact absurd (.inr (by omega)) hc78
    · try dsimp only at hc39
      refine TC.skip' ?_
      refine TC.seq ?_
      refine TC.regionCut [71, 72, 73, 74, 75, 76, 77, 78] 78 ((i : Int) < a.t ∨ (i : Int) ≥ a.b) ?_ ?_
      · skip
        refine TL.run1 (pure_move rfl) rfl ?_
        refine TL.run1 (pure_move rfl) rfl ?_
        refine TL.run1 (pure_lss rfl rfl) rfl ?_
        refine TL.run1 (pure_move rfl) rfl ?_
        first | refine TL.splitP 74 rfl (fun hg74 => ?_) (fun hg74 => ?_) | refine TL.split 74 rfl (fun hg74 => ?_) (fun hg74 => ?_)
        · try dsimp only at hg74
          refine TL.passG rfl rfl rfl rfl ?_
          refine TL.passG rfl rfl rfl rfl ?_
          refine TL.passG rfl rfl rfl rfl ?_
          refine TL.run1 (pure_pick_true rfl rfl) rfl ?_
          refine TL.cutEnd (by repeat (first | exact Same.refl _ _ | refine Same.put rfl ?_)) rfl ?_
          first | (simp only [decide_eq_true_eq, Bool.false_eq_true, false_iff, true_iff, iff_true, iff_false, Bool.not_eq_true]; omega) | (simp_all; done) | (simp_all; omega) | grind
        · try dsimp only at hg74
          refine TL.runG rfl rfl (pure_move rfl) rfl ?_
          refine TL.runG rfl rfl (pure_move rfl) rfl ?_
          refine TL.runG rfl rfl (pure_geq rfl rfl) rfl ?_
          refine TL.run1 (pure_pick_false rfl rfl) rfl ?_
          refine TL.cutEnd (by repeat (first | exact Same.refl _ _ | refine Same.put rfl ?_)) rfl ?_
          first | (simp only [decide_eq_true_eq, Bool.false_eq_true, false_iff, true_iff, iff_true, iff_false, Bool.not_eq_true]; omega) | (simp_all; done) | (simp_all; omega) | grind
      first | refine TC.condD rfl (fun hc78 => ?_) (fun hc78 => ?_) | refine TC.condN rfl (fun hc78 => ?_) (fun hc78 => ?_) | refine TC.cond rfl (fun hc78 => ?_) (fun hc78 => ?_)
      · try dsimp only at hc78
        refine TC.seq ?_
        refine TC.region ?_
        refine TL.run1 (pure_move rfl) rfl ?_
        refine TL.run1 (pure_load_own Ty.agg36 rfl (by repeat (first | exact List.Mem.head _ | apply List.Mem.tail)) (by repeat (first | exact DropR.zero _ | apply DropR.succ)) (.succ (.succ (.succ (.succ (.succ (.succ (.zero _)))))))) rfl ?_
        refine TL.run1 (pure_buildSlice (xs := [.tmp 80]) Ty.app22 (by decide) rfl rfl (.cons rfl (.agg _) rfl .nil)) rfl ?_
        refine TL.append Ty.app22 rfl rfl (by intro _; repeat (first | exact UpdR.here _ | apply UpdR.there)) (by simp only [List.length_append, List.length_cons, List.length_nil]; omega) (by simp only [List.length_append, List.length_cons, List.length_nil]; omega) rfl (fun v82 hv82 => ?_)
        refine TL.run1 (pure_assign rfl) rfl ?_
        refine TL.nil' ?_
        refine TC.exit ?_
        refine then_exit ?_
        refine block_here ?_
        refine then_normal ?_
        refine TC.region ?_
        refine TL.run1 (pure_move rfl) rfl ?_
        refine TL.run1 (pure_add rfl rfl (mkI64 (by omega) (by omega))) rfl ?_
        refine TL.run1 (pure_assign rfl) rfl ?_
        refine TL.nil ?_
        have hmI : mrgI rs a (i : Nat) = (rAt rs (i : Nat)) := by (unfold mrgI; rw [if_neg (by omega), if_neg hc39])
        have hst := mrgT_step rs a i hil
        rw [hmI] at hst
        refine loop_next (i + 1, v82) ⟨by ((try dsimp only); rw [show (((i + 1 : Nat)) : Int) = (i : Int) + 1 by omega]; repeat (first | exact Agree.nil | refine Agree.cons rfl ?_)), by (try dsimp only); rw [hst]; repeat (first | exact List.nil_sublist _ | exact List.Sublist.refl _ | apply List.Sublist.cons_cons | apply List.Sublist.cons)⟩ (show i + 1 ≤ _ by omega) (by (try dsimp only); omega)
      · try dsimp only at hc78
        refine TC.skip' ?_
        refine TC.seq ?_
        refine TC.region ?_
        refine TL.run1 (pure_assign rfl) rfl ?_
        refine TL.nil' ?_
        refine TC.seq ?_
        refine TC.seq ?_
        refine TC.nilrow 74 7 ?_
        refine TC.region ?_
        refine TL.run1 (pure_assign rfl) rfl ?_
        refine TL.nil' ?_
        refine TC.block ?_
        refine TC.loopX (X := Nat × Value) (fun (k, v2) => [(0, .sl 6 (encRs rs)), (1, .v (.int .i64 a.t)), (2, .v (.int .i64 a.l)), (3, .v (.int .i64 a.b)), (4, .v (.int .i64 a.r)), (11, .v v), (12, .v (.int .i64 i)), (13, .v (.pointer (some ⟨g13, 0, none⟩))), (15, .v v2), (16, .v (.int .i64 k))]) (fun (k, v2) => [Blk.row v2 74 7 (encCs (mrgTo a (i : Nat) (rAt rs (i : Nat)) k)), Blk.box g13 36 (encR (rAt rs (i : Nat))), Blk.row v 36 6 (encRs ((mrgT rs a).take i))]) (fun (k, v2) => (k ≤ (rAt rs (i : Nat)).cells.length) ∧ ((D.v v2).one = true)) (fun (k, v2) => (rAt rs (i : Nat)).cells.length - k) (0, .slice none 0 0) ⟨by skip; repeat (first | exact Agree.nil | refine Agree.cons rfl ?_), by skip; repeat (first | exact List.nil_sublist _ | exact List.Sublist.refl _ | apply List.Sublist.cons_cons | apply List.Sublist.cons)⟩ ?_ ?_
        · skip
          exact ⟨Nat.zero_le _, rfl⟩
        rintro ⟨k, v2⟩
        rintro ⟨k1, k2⟩
        show TC _ _ _ (Env.of [(0, .sl 6 (encRs rs)), (1, .v (.int .i64 a.t)), (2, .v (.int .i64 a.l)), (3, .v (.int .i64 a.b)), (4, .v (.int .i64 a.r)), (11, .v v), (12, .v (.int .i64 i)), (13, .v (.pointer (some ⟨g13, 0, none⟩))), (15, .v v2), (16, .v (.int .i64 k))]) [Blk.row v2 74 7 (encCs (mrgTo a (i : Nat) (rAt rs (i : Nat)) k)), Blk.box g13 36 (encR (rAt rs (i : Nat))), Blk.row v 36 6 (encRs ((mrgT rs a).take i))]
        refine TC.seq ?_
        refine TC.seq ?_
        refine TC.region ?_
        refine TL.run1 (pure_move rfl) rfl ?_
        first | refine TL.run1 (pure_fieldAddr Ty.f36_1 rfl (.succ (.succ (.succ (.succ (.succ (.zero _)))))) (List.cons_ne_nil _ _)) rfl ?_ | refine TL.run1 (pure_fieldAddr_own Ty.f36_1 rfl) rfl ?_
        first | refine TL.run1 (pure_load1 Ty.one34 rfl) rfl ?_ | refine TL.run1 (pure_load1_own Ty.one34 rfl (by repeat (first | exact List.Mem.head _ | apply List.Mem.tail)) (by repeat (first | exact DropR.zero _ | apply DropR.succ))) rfl ?_
        first | refine TL.run1 (pure_len Ty.sl34 rfl) rfl ?_ | refine TL.run1 (pure_len_row Ty.sl34 rfl (by repeat (first | exact List.Mem.head _ | apply List.Mem.tail))) rfl ?_ | refine TL.run1 (pure_len_nil Ty.sl34 rfl) rfl ?_
        refine TL.run1 (pure_lss rfl rfl) rfl ?_
        refine TL.nil' ?_
        first | refine TC.condD rfl (fun hc87 => ?_) (fun hc87 => ?_) | refine TC.condN rfl (fun hc87 => ?_) (fun hc87 => ?_) | refine TC.cond rfl (fun hc87 => ?_) (fun hc87 => ?_)
        · try dsimp only at hc87
          refine TC.skip' ?_
          refine TC.seq ?_
          refine TC.block ?_
          refine TC.seq ?_
          have hkl : k < (rAt rs (i : Nat)).cells.length := by omega
          have hx2 : (encCs (rAt rs (i : Nat)).cells)[k]? = some (encC (cAt (rAt rs (i : Nat)).cells (k : Nat))) := by (have := encCs_get (rAt rs (i : Nat)).cells (k : Int) (by omega) (by omega); rwa [Int.toNat_natCast] at this)
          have hck1 := (hro.1 (cAt (rAt rs (i : Nat)).cells (k : Nat)) (cAt_mem (rAt rs (i : Nat)).cells (k : Int) (by omega) (by omega))).1
          have hcp := hP (rAt rs (i : Nat)) (rAt_mem rs (i : Int) (by omega) (by omega)) (cAt (rAt rs (i : Nat)).cells (k : Nat)) (cAt_mem (rAt rs (i : Nat)).cells (k : Int) (by omega) (by omega))
          have hml := mrgTo_len a (i : Nat) (rAt rs (i : Nat)) k
          have hme := encCs_len (mrgTo a (i : Nat) (rAt rs (i : Nat)) k)
          refine TC.region ?_
          first | refine TL.run1 (pure_fieldAddr Ty.f36_1 rfl (.succ (.succ (.succ (.succ (.succ (.zero _)))))) (List.cons_ne_nil _ _)) rfl ?_ | refine TL.run1 (pure_fieldAddr_own Ty.f36_1 rfl) rfl ?_
          first | refine TL.run1 (pure_load1 Ty.one34 rfl) rfl ?_ | refine TL.run1 (pure_load1_own Ty.one34 rfl (by repeat (first | exact List.Mem.head _ | apply List.Mem.tail)) (by repeat (first | exact DropR.zero _ | apply DropR.succ))) rfl ?_
          refine TL.run1 (pure_move rfl) rfl ?_
          refine TL.run1 (pure_indexAddr Ty.sl34 rfl rfl (by omega) (by rw [Int.toNat_natCast]; exact hx2) (List.cons_ne_nil _ _)) rfl ?_
          first | refine TL.run1 (pure_load Ty.agg74 rfl (.succ (.succ (.succ (.succ (.succ (.succ (.succ (.zero _))))))))) rfl ?_ | refine TL.run1 (pure_load_own Ty.agg74 rfl (by repeat (first | exact List.Mem.head _ | apply List.Mem.tail)) (by repeat (first | exact DropR.zero _ | apply DropR.succ)) (.succ (.succ (.succ (.succ (.succ (.succ (.succ (.zero _))))))))) rfl ?_
          refine TL.alloc Ty.zero74 rfl (fun g17 => ?_)
          refine TL.store rfl rfl (.agg _) Try.sizeOf74 rfl (by repeat (first | exact UpdR.here _ | apply UpdR.there)) (by repeat (first | exact PutR.nil _ | apply PutR.here | apply PutR.skip)) ?_
          refine TL.nil' ?_
          refine TC.seq ?_
          refine TC.region ?_
          first | refine TL.run1 (pure_load Ty.agg36 rfl (.succ (.succ (.succ (.succ (.succ (.succ (.zero _)))))))) rfl ?_ | refine TL.run1 (pure_load_own Ty.agg36 rfl (by repeat (first | exact List.Mem.head _ | apply List.Mem.tail)) (by repeat (first | exact DropR.zero _ | apply DropR.succ)) (.succ (.succ (.succ (.succ (.succ (.succ (.zero _)))))))) rfl ?_
          refine TL.run1 (pure_move rfl) rfl ?_
          refine TL.run1 (pure_call (span_spec (rAt rs (i : Nat)) hro (k : Int) (by omega) (by omega)) (.cons rfl (.cons rfl .nil)) Try.call19) rfl ?_
          refine TL.run1 (pure_move rfl) rfl ?_
          refine TL.run1 (pure_extract rfl rfl) rfl ?_
          refine TL.run1 (pure_extract rfl rfl) rfl ?_
          refine TL.run1 (pure_assign rfl) rfl ?_
          refine TL.run1 (pure_assign rfl) rfl ?_
          refine TL.nil' ?_
          refine TC.seq ?_
          refine TC.regionCut [101, 102, 103, 104, 105, 106, 107, 108, 109, 110, 111, 112, 113] 113 ((sAt (spansR (rAt rs (i : Nat))) (k : Nat)).1 < a.l ∨ (sAt (spansR (rAt rs (i : Nat))) (k : Nat)).1 ≥ a.r ∨ (sAt (spansR (rAt rs (i : Nat))) (k : Nat)).1 = (sAt (spansR (rAt rs (i : Nat))) (k : Nat)).2) ?_ ?_
          · skip
            refine TL.run1 (pure_move rfl) rfl ?_
            refine TL.run1 (pure_move rfl) rfl ?_
            refine TL.run1 (pure_lss rfl rfl) rfl ?_
            refine TL.run1 (pure_move rfl) rfl ?_
            first | refine TL.splitP 104 rfl (fun hg104 => ?_) (fun hg104 => ?_) | refine TL.split 104 rfl (fun hg104 => ?_) (fun hg104 => ?_)
            · try dsimp only at hg104
              refine TL.passG rfl rfl rfl rfl ?_
              refine TL.passG rfl rfl rfl rfl ?_
              refine TL.passG rfl rfl rfl rfl ?_
              refine TL.run1 (pure_pick_true rfl rfl) rfl ?_
              refine TL.run1 (pure_move rfl) rfl ?_
              refine TL.passG rfl rfl rfl rfl ?_
              refine TL.passG rfl rfl rfl rfl ?_
              refine TL.passG rfl rfl rfl rfl ?_
              refine TL.run1 (pure_pick_true rfl rfl) rfl ?_
              refine TL.cutEnd (by repeat (first | exact Same.refl _ _ | refine Same.put rfl ?_)) rfl ?_
              first | (simp only [decide_eq_true_eq, Bool.false_eq_true, false_iff, true_iff, iff_true, iff_false, Bool.not_eq_true]; omega) | (simp_all; done) | (simp_all; omega) | grind
            · try dsimp only at hg104
              refine TL.runG rfl rfl (pure_move rfl) rfl ?_
              refine TL.runG rfl rfl (pure_move rfl) rfl ?_
              refine TL.runG rfl rfl (pure_geq rfl rfl) rfl ?_
              refine TL.run1 (pure_pick_false rfl rfl) rfl ?_
              refine TL.run1 (pure_move rfl) rfl ?_
              first | refine TL.splitP 109 rfl (fun hg109 => ?_) (fun hg109 => ?_) | refine TL.split 109 rfl (fun hg109 => ?_) (fun hg109 => ?_)
              · try dsimp only at hg109
                refine TL.passG rfl rfl rfl rfl ?_
                refine TL.passG rfl rfl rfl rfl ?_
                refine TL.passG rfl rfl rfl rfl ?_
                refine TL.run1 (pure_pick_true rfl rfl) rfl ?_
                refine TL.cutEnd (by repeat (first | exact Same.refl _ _ | refine Same.put rfl ?_)) rfl ?_
                first | (simp only [decide_eq_true_eq, Bool.false_eq_true, false_iff, true_iff, iff_true, iff_false, Bool.not_eq_true]; omega) | (simp_all; done) | (simp_all; omega) | grind
              · try dsimp only at hg109
                refine TL.runG rfl rfl (pure_move rfl) rfl ?_
                refine TL.runG rfl rfl (pure_move rfl) rfl ?_
                refine TL.runG rfl rfl (pure_eql rfl rfl) rfl ?_
                refine TL.run1 (pure_pick_false rfl rfl) rfl ?_
                refine TL.cutEnd (by repeat (first | exact Same.refl _ _ | refine Same.put rfl ?_)) rfl ?_
                first | (simp only [decide_eq_true_eq, Bool.false_eq_true, false_iff, true_iff, iff_true, iff_false, Bool.not_eq_true]; omega) | (simp_all; done) | (simp_all; omega) | grind
          first | refine TC.condD rfl (fun hc113 => ?_) (fun hc113 => ?_) | refine TC.condN rfl (fun hc113 => ?_) (fun hc113 => ?_) | refine TC.cond rfl (fun hc113 => ?_) (fun hc113 => ?_)
          · try dsimp only at hc113
            refine TC.seq ?_
            refine TC.region ?_
            refine TL.run1 (pure_move rfl) rfl ?_
            first | refine TL.run1 (pure_load Ty.agg74 rfl (.succ (.succ (.succ (.succ (.succ (.succ (.succ (.zero _))))))))) rfl ?_ | refine TL.run1 (pure_load_own Ty.agg74 rfl (by repeat (first | exact List.Mem.head _ | apply List.Mem.tail)) (by repeat (first | exact DropR.zero _ | apply DropR.succ)) (.succ (.succ (.succ (.succ (.succ (.succ (.succ (.zero _))))))))) rfl ?_
            refine TL.run1 (pure_buildSlice (xs := [.tmp 115]) Ty.app34 (by decide) rfl rfl (.cons rfl (.agg _) rfl .nil)) rfl ?_
            refine TL.append Ty.app34 rfl rfl (by intro _; repeat (first | exact UpdR.here _ | apply UpdR.there)) (by simp only [List.length_append, List.length_cons, List.length_nil]; omega) (by simp only [List.length_append, List.length_cons, List.length_nil]; omega) rfl (fun v117 hv117 => ?_)
            refine TL.run1 (pure_assign rfl) rfl ?_
            refine TL.nil' ?_
            refine TC.exit ?_
            refine then_exit ?_
            refine block_here ?_
            refine then_normal ?_
            refine TC.region ?_
            refine TL.run1 (pure_move rfl) rfl ?_
            refine TL.run1 (pure_add rfl rfl (mkI64 (by omega) (by omega))) rfl ?_
            refine TL.run1 (pure_assign rfl) rfl ?_
            refine TL.nil ?_
            have hmk : mrgTo a (i : Nat) (rAt rs (i : Nat)) (k + 1) = mrgTo a (i : Nat) (rAt rs (i : Nat)) k ++ [(cAt (rAt rs (i : Nat)).cells (k : Nat))] := by (rw [mrgTo]; unfold mrgK; rw [if_pos hc113])
            refine loop_next (k + 1, v117) ⟨by ((try dsimp only); rw [show (((k + 1 : Nat)) : Int) = (k : Int) + 1 by omega]; repeat (first | exact Agree.nil | refine Agree.cons rfl ?_)), by (try dsimp only); rw [hmk, encCs_snoc]; repeat (first | exact List.nil_sublist _ | exact List.Sublist.refl _ | apply List.Sublist.cons_cons | apply List.Sublist.cons)⟩ ⟨show k + 1 ≤ _ by omega, hv117⟩ (by (try dsimp only); omega)
          · try dsimp only at hc113
            refine TC.skip' ?_
            refine TC.seq ?_
            refine TC.seq ?_
            refine TC.region ?_
            refine TL.run1 (pure_move rfl) rfl ?_
            refine TL.run1 (pure_move rfl) rfl ?_
            refine TL.run1 (pure_gtr rfl rfl) rfl ?_
            refine TL.nil' ?_
            first | refine TC.condD rfl (fun hc120 => ?_) (fun hc120 => ?_) | refine TC.condN rfl (fun hc120 => ?_) (fun hc120 => ?_) | refine TC.cond rfl (fun hc120 => ?_) (fun hc120 => ?_)
            · try dsimp only at hc120
              refine TC.exit ?_
              refine then_exit ?_
              refine block_here ?_
              refine then_normal ?_
              refine TC.region ?_
              refine TL.run1 (pure_move rfl) rfl ?_
              refine TL.run1 (pure_add rfl rfl (mkI64 (by omega) (by omega))) rfl ?_
              refine TL.run1 (pure_assign rfl) rfl ?_
              refine TL.nil ?_
              have hmk : mrgTo a (i : Nat) (rAt rs (i : Nat)) (k + 1) = mrgTo a (i : Nat) (rAt rs (i : Nat)) k ++ [] := by (rw [mrgTo]; unfold mrgK; rw [if_neg hc113, if_pos hc120])
              refine loop_next (k + 1, v2) ⟨by ((try dsimp only); rw [show (((k + 1 : Nat)) : Int) = (k : Int) + 1 by omega]; repeat (first | exact Agree.nil | refine Agree.cons rfl ?_)), by (try dsimp only); rw [hmk, List.append_nil]; repeat (first | exact List.nil_sublist _ | exact List.Sublist.refl _ | apply List.Sublist.cons_cons | apply List.Sublist.cons)⟩ ⟨show k + 1 ≤ _ by omega, k2⟩ (by (try dsimp only); omega)
            · try dsimp only at hc120
              refine TC.skip' ?_
              refine TC.seq ?_
              refine TC.region ?_
              refine TL.run1 (pure_assign rfl) rfl ?_
              refine TL.nil' ?_
              refine TC.seq ?_
              refine TC.seq ?_
              refine TC.region ?_
              refine TL.run1 (pure_move rfl) rfl ?_
              refine TL.run1 (pure_move rfl) rfl ?_
              refine TL.run1 (pure_eql rfl rfl) rfl ?_
              refine TL.nil' ?_
              first | refine TC.condD rfl (fun hc123 => ?_) (fun hc123 => ?_) | refine TC.condN rfl (fun hc123 => ?_) (fun hc123 => ?_) | refine TC.cond rfl (fun hc123 => ?_) (fun hc123 => ?_)
              · try dsimp only at hc123
                refine TC.region ?_
                refine TL.run1 (pure_assign rfl) rfl ?_
                refine TL.nil' ?_
                refine TC.seq ?_
                refine TC.seq ?_
                refine TC.region ?_
                refine TL.run1 (pure_move rfl) rfl ?_
                refine TL.run1 (pure_move rfl) rfl ?_
                refine TL.run1 (pure_add rfl rfl (mkI64 (by omega) (by omega))) rfl ?_
                refine TL.run1 (pure_eql rfl rfl) rfl ?_
                refine TL.nil' ?_
                first | refine TC.condD rfl (fun hc127 => ?_) (fun hc127 => ?_) | refine TC.condN rfl (fun hc127 => ?_) (fun hc127 => ?_) | refine TC.cond rfl (fun hc127 => ?_) (fun hc127 => ?_)
                · try dsimp only at hc127
                  refine TC.region ?_
                  refine TL.run1 (pure_assign rfl) rfl ?_
                  refine TL.nil' ?_
                  refine TC.seq ?_
                  have hpi := putP_inc hck1 60 (a.r - a.l) 1
                  have hpl := putP_len (cAt (rAt rs (i : Nat)).cells (k : Nat)).props 60 (a.r - a.l) 1
                  refine TC.region ?_
                  first | refine TL.run1 (pure_fieldAddr Ty.f74_1 rfl (.succ (.zero _)) (List.cons_ne_nil _ _)) rfl ?_ | refine TL.run1 (pure_fieldAddr_own Ty.f74_1 rfl) rfl ?_
                  first | refine TL.run1 (pure_fieldAddr Ty.f33_0 rfl (.zero _) (List.cons_ne_nil _ _)) rfl ?_ | refine TL.run1 (pure_fieldAddr_own Ty.f33_0 rfl) rfl ?_
                  first | refine TL.run1 (pure_load1 Ty.one27 rfl) rfl ?_ | refine TL.run1 (pure_load1_own Ty.one27 rfl (by repeat (first | exact List.Mem.head _ | apply List.Mem.tail)) (by repeat (first | exact DropR.zero _ | apply DropR.succ))) rfl ?_
                  refine TL.run1 (pure_move rfl) rfl ?_
                  refine TL.run1 (pure_move rfl) rfl ?_
                  refine TL.run1 (pure_sub rfl rfl (mkI64 (by omega) (by omega))) rfl ?_
                  first | refine TL.run1 (pure_call (setPut_spec (cAt (rAt rs (i : Nat)).cells (mn : Nat)).props hcm 61 1 0 (by omega)) (.cons rfl (.cons rfl (.cons rfl (.cons rfl .nil)))) Try.call49) rfl ?_ | refine TL.run1 (pure_call (setPut_spec (cAt (rAt rs (i : Nat)).cells (k : Nat)).props hck1 60 (a.r - a.l) 1 (by omega)) (.cons rfl (.cons rfl (.cons rfl (.cons rfl .nil)))) Try.call49) rfl ?_
                  refine TL.run1 (pure_move rfl) rfl ?_
                  refine TL.run1 (pure_call (setPut_spec (putP (cAt (rAt rs (i : Nat)).cells (k : Nat)).props 60 (a.r - a.l) 1) hpi 61 0 0 (by omega)) (.cons rfl (.cons rfl (.cons rfl (.cons rfl .nil)))) Try.call49) rfl ?_
                  first | refine TL.run1 (pure_fieldAddr Ty.f74_1 rfl (.succ (.zero _)) (List.cons_ne_nil _ _)) rfl ?_ | refine TL.run1 (pure_fieldAddr_own Ty.f74_1 rfl) rfl ?_
                  first | refine TL.run1 (pure_fieldAddr Ty.f33_0 rfl (.zero _) (List.cons_ne_nil _ _)) rfl ?_ | refine TL.run1 (pure_fieldAddr_own Ty.f33_0 rfl) rfl ?_
                  refine TL.store rfl rfl (.one (by first | rfl | assumption)) Try.sizeOf27 rfl (by repeat (first | exact UpdR.here _ | apply UpdR.there)) (by repeat (first | exact PutR.nil _ | apply PutR.here | apply PutR.skip)) ?_
                  refine TL.nil' ?_
                  refine TC.region ?_
                  refine TL.run1 (pure_move rfl) rfl ?_
                  first | refine TL.run1 (pure_load Ty.agg74 rfl (.succ (.succ (.succ (.succ (.succ (.succ (.succ (.zero _))))))))) rfl ?_ | refine TL.run1 (pure_load_own Ty.agg74 rfl (by repeat (first | exact List.Mem.head _ | apply List.Mem.tail)) (by repeat (first | exact DropR.zero _ | apply DropR.succ)) (.succ (.succ (.succ (.succ (.succ (.succ (.succ (.zero _))))))))) rfl ?_
                  refine TL.run1 (pure_buildSlice (xs := [.tmp 140]) Ty.app34 (by decide) rfl rfl (.cons rfl (.agg _) rfl .nil)) rfl ?_
                  refine TL.append Ty.app34 rfl rfl (by intro _; repeat (first | exact UpdR.here _ | apply UpdR.there)) (by simp only [List.length_append, List.length_cons, List.length_nil]; omega) (by simp only [List.length_append, List.length_cons, List.length_nil]; omega) rfl (fun v142 hv142 => ?_)
                  refine TL.run1 (pure_assign rfl) rfl ?_
                  refine TL.nil ?_
                  refine block_normal ?_
                  refine then_normal ?_
                  refine TC.region ?_
                  refine TL.run1 (pure_move rfl) rfl ?_
                  refine TL.run1 (pure_add rfl rfl (mkI64 (by omega) (by omega))) rfl ?_
                  refine TL.run1 (pure_assign rfl) rfl ?_
                  refine TL.nil ?_
                  have hmv : mvA a (i : Nat) = 0 := by (unfold mvA; rw [if_pos hc127])
                  have hmc : encC (mrgC a (i : Nat) (cAt (rAt rs (i : Nat)).cells (k : Nat))) = encC { (cAt (rAt rs (i : Nat)).cells (k : Nat)) with props := putP (putP (cAt (rAt rs (i : Nat)).cells (k : Nat)).props 60 (a.r - a.l) 1) 61 0 0 } := by (unfold mrgC; rw [hmv]; rfl)
                  have hmk : mrgTo a (i : Nat) (rAt rs (i : Nat)) (k + 1) = mrgTo a (i : Nat) (rAt rs (i : Nat)) k ++ [mrgC a (i : Nat) (cAt (rAt rs (i : Nat)).cells (k : Nat))] := by (rw [mrgTo]; unfold mrgK; rw [if_neg hc113, if_neg hc120])
                  refine loop_next (k + 1, v142) ⟨by ((try dsimp only); rw [show (((k + 1 : Nat)) : Int) = (k : Int) + 1 by omega]; repeat (first | exact Agree.nil | refine Agree.cons rfl ?_)), by (try dsimp only); rw [hmk, encCs_snoc, hmc]; repeat (first | exact List.nil_sublist _ | exact List.Sublist.refl _ | apply List.Sublist.cons_cons | apply List.Sublist.cons)⟩ ⟨show k + 1 ≤ _ by omega, hv142⟩ (by (try dsimp only); omega)
                · try dsimp only at hc127
                  refine TC.skip' ?_
                  refine TC.seq ?_
                  have hpi := putP_inc hck1 60 (a.r - a.l) 1
                  have hpl := putP_len (cAt (rAt rs (i : Nat)).cells (k : Nat)).props 60 (a.r - a.l) 1
                  refine TC.region ?_
                  first | refine TL.run1 (pure_fieldAddr Ty.f74_1 rfl (.succ (.zero _)) (List.cons_ne_nil _ _)) rfl ?_ | refine TL.run1 (pure_fieldAddr_own Ty.f74_1 rfl) rfl ?_
                  first | refine TL.run1 (pure_fieldAddr Ty.f33_0 rfl (.zero _) (List.cons_ne_nil _ _)) rfl ?_ | refine TL.run1 (pure_fieldAddr_own Ty.f33_0 rfl) rfl ?_
                  first | refine TL.run1 (pure_load1 Ty.one27 rfl) rfl ?_ | refine TL.run1 (pure_load1_own Ty.one27 rfl (by repeat (first | exact List.Mem.head _ | apply List.Mem.tail)) (by repeat (first | exact DropR.zero _ | apply DropR.succ))) rfl ?_
                  refine TL.run1 (pure_move rfl) rfl ?_
                  refine TL.run1 (pure_move rfl) rfl ?_
                  refine TL.run1 (pure_sub rfl rfl (mkI64 (by omega) (by omega))) rfl ?_
                  first | refine TL.run1 (pure_call (setPut_spec (cAt (rAt rs (i : Nat)).cells (mn : Nat)).props hcm 61 1 0 (by omega)) (.cons rfl (.cons rfl (.cons rfl (.cons rfl .nil)))) Try.call49) rfl ?_ | refine TL.run1 (pure_call (setPut_spec (cAt (rAt rs (i : Nat)).cells (k : Nat)).props hck1 60 (a.r - a.l) 1 (by omega)) (.cons rfl (.cons rfl (.cons rfl (.cons rfl .nil)))) Try.call49) rfl ?_
                  refine TL.run1 (pure_move rfl) rfl ?_
                  refine TL.run1 (pure_call (setPut_spec (putP (cAt (rAt rs (i : Nat)).cells (k : Nat)).props 60 (a.r - a.l) 1) hpi 61 1 0 (by omega)) (.cons rfl (.cons rfl (.cons rfl (.cons rfl .nil)))) Try.call49) rfl ?_
                  first | refine TL.run1 (pure_fieldAddr Ty.f74_1 rfl (.succ (.zero _)) (List.cons_ne_nil _ _)) rfl ?_ | refine TL.run1 (pure_fieldAddr_own Ty.f74_1 rfl) rfl ?_
                  first | refine TL.run1 (pure_fieldAddr Ty.f33_0 rfl (.zero _) (List.cons_ne_nil _ _)) rfl ?_ | refine TL.run1 (pure_fieldAddr_own Ty.f33_0 rfl) rfl ?_
                  refine TL.store rfl rfl (.one (by first | rfl | assumption)) Try.sizeOf27 rfl (by repeat (first | exact UpdR.here _ | apply UpdR.there)) (by repeat (first | exact PutR.nil _ | apply PutR.here | apply PutR.skip)) ?_
                  refine TL.nil' ?_
                  refine TC.region ?_
                  refine TL.run1 (pure_move rfl) rfl ?_
                  first | refine TL.run1 (pure_load Ty.agg74 rfl (.succ (.succ (.succ (.succ (.succ (.succ (.succ (.zero _))))))))) rfl ?_ | refine TL.run1 (pure_load_own Ty.agg74 rfl (by repeat (first | exact List.Mem.head _ | apply List.Mem.tail)) (by repeat (first | exact DropR.zero _ | apply DropR.succ)) (.succ (.succ (.succ (.succ (.succ (.succ (.succ (.zero _))))))))) rfl ?_
                  refine TL.run1 (pure_buildSlice (xs := [.tmp 140]) Ty.app34 (by decide) rfl rfl (.cons rfl (.agg _) rfl .nil)) rfl ?_
                  refine TL.append Ty.app34 rfl rfl (by intro _; repeat (first | exact UpdR.here _ | apply UpdR.there)) (by simp only [List.length_append, List.length_cons, List.length_nil]; omega) (by simp only [List.length_append, List.length_cons, List.length_nil]; omega) rfl (fun v142 hv142 => ?_)
                  refine TL.run1 (pure_assign rfl) rfl ?_
                  refine TL.nil ?_
                  refine block_normal ?_
                  refine then_normal ?_
                  refine TC.region ?_
                  refine TL.run1 (pure_move rfl) rfl ?_
                  refine TL.run1 (pure_add rfl rfl (mkI64 (by omega) (by omega))) rfl ?_
                  refine TL.run1 (pure_assign rfl) rfl ?_
                  refine TL.nil ?_
                  have hmv : mvA a (i : Nat) = 1 := by (unfold mvA; rw [if_neg hc127, if_pos hc123])
                  have hmc : encC (mrgC a (i : Nat) (cAt (rAt rs (i : Nat)).cells (k : Nat))) = encC { (cAt (rAt rs (i : Nat)).cells (k : Nat)) with props := putP (putP (cAt (rAt rs (i : Nat)).cells (k : Nat)).props 60 (a.r - a.l) 1) 61 1 0 } := by (unfold mrgC; rw [hmv]; rfl)
                  have hmk : mrgTo a (i : Nat) (rAt rs (i : Nat)) (k + 1) = mrgTo a (i : Nat) (rAt rs (i : Nat)) k ++ [mrgC a (i : Nat) (cAt (rAt rs (i : Nat)).cells (k : Nat))] := by (rw [mrgTo]; unfold mrgK; rw [if_neg hc113, if_neg hc120])
                  refine loop_next (k + 1, v142) ⟨by ((try dsimp only); rw [show (((k + 1 : Nat)) : Int) = (k : Int) + 1 by omega]; repeat (first | exact Agree.nil | refine Agree.cons rfl ?_)), by (try dsimp only); rw [hmk, encCs_snoc, hmc]; repeat (first | exact List.nil_sublist _ | exact List.Sublist.refl _ | apply List.Sublist.cons_cons | apply List.Sublist.cons)⟩ ⟨show k + 1 ≤ _ by omega, hv142⟩ (by (try dsimp only); omega)
              · try dsimp only at hc123
                refine TC.skip' ?_
                refine TC.seq ?_
                refine TC.seq ?_
                refine TC.region ?_
                refine TL.run1 (pure_move rfl) rfl ?_
                refine TL.run1 (pure_move rfl) rfl ?_
                refine TL.run1 (pure_add rfl rfl (mkI64 (by omega) (by omega))) rfl ?_
                refine TL.run1 (pure_eql rfl rfl) rfl ?_
                refine TL.nil' ?_
                first | refine TC.condD rfl (fun hc127 => ?_) (fun hc127 => ?_) | refine TC.condN rfl (fun hc127 => ?_) (fun hc127 => ?_) | refine TC.cond rfl (fun hc127 => ?_) (fun hc127 => ?_)
                · try dsimp only at hc127
                  refine TC.region ?_
                  refine TL.run1 (pure_assign rfl) rfl ?_
                  refine TL.nil' ?_
                  refine TC.seq ?_
                  have hpi := putP_inc hck1 60 (a.r - a.l) 1
                  have hpl := putP_len (cAt (rAt rs (i : Nat)).cells (k : Nat)).props 60 (a.r - a.l) 1
                  refine TC.region ?_
                  first | refine TL.run1 (pure_fieldAddr Ty.f74_1 rfl (.succ (.zero _)) (List.cons_ne_nil _ _)) rfl ?_ | refine TL.run1 (pure_fieldAddr_own Ty.f74_1 rfl) rfl ?_
                  first | refine TL.run1 (pure_fieldAddr Ty.f33_0 rfl (.zero _) (List.cons_ne_nil _ _)) rfl ?_ | refine TL.run1 (pure_fieldAddr_own Ty.f33_0 rfl) rfl ?_
                  first | refine TL.run1 (pure_load1 Ty.one27 rfl) rfl ?_ | refine TL.run1 (pure_load1_own Ty.one27 rfl (by repeat (first | exact List.Mem.head _ | apply List.Mem.tail)) (by repeat (first | exact DropR.zero _ | apply DropR.succ))) rfl ?_
                  refine TL.run1 (pure_move rfl) rfl ?_
                  refine TL.run1 (pure_move rfl) rfl ?_
                  refine TL.run1 (pure_sub rfl rfl (mkI64 (by omega) (by omega))) rfl ?_
                  first | refine TL.run1 (pure_call (setPut_spec (cAt (rAt rs (i : Nat)).cells (mn : Nat)).props hcm 61 1 0 (by omega)) (.cons rfl (.cons rfl (.cons rfl (.cons rfl .nil)))) Try.call49) rfl ?_ | refine TL.run1 (pure_call (setPut_spec (cAt (rAt rs (i : Nat)).cells (k : Nat)).props hck1 60 (a.r - a.l) 1 (by omega)) (.cons rfl (.cons rfl (.cons rfl (.cons rfl .nil)))) Try.call49) rfl ?_
                  refine TL.run1 (pure_move rfl) rfl ?_
                  refine TL.run1 (pure_call (setPut_spec (putP (cAt (rAt rs (i : Nat)).cells (k : Nat)).props 60 (a.r - a.l) 1) hpi 61 0 0 (by omega)) (.cons rfl (.cons rfl (.cons rfl (.cons rfl .nil)))) Try.call49) rfl ?_
                  first | refine TL.run1 (pure_fieldAddr Ty.f74_1 rfl (.succ (.zero _)) (List.cons_ne_nil _ _)) rfl ?_ | refine TL.run1 (pure_fieldAddr_own Ty.f74_1 rfl) rfl ?_
                  first | refine TL.run1 (pure_fieldAddr Ty.f33_0 rfl (.zero _) (List.cons_ne_nil _ _)) rfl ?_ | refine TL.run1 (pure_fieldAddr_own Ty.f33_0 rfl) rfl ?_
                  refine TL.store rfl rfl (.one (by first | rfl | assumption)) Try.sizeOf27 rfl (by repeat (first | exact UpdR.here _ | apply UpdR.there)) (by repeat (first | exact PutR.nil _ | apply PutR.here | apply PutR.skip)) ?_
                  refine TL.nil' ?_
                  refine TC.region ?_
                  refine TL.run1 (pure_move rfl) rfl ?_
                  first | refine TL.run1 (pure_load Ty.agg74 rfl (.succ (.succ (.succ (.succ (.succ (.succ (.succ (.zero _))))))))) rfl ?_ | refine TL.run1 (pure_load_own Ty.agg74 rfl (by repeat (first | exact List.Mem.head _ | apply List.Mem.tail)) (by repeat (first | exact DropR.zero _ | apply DropR.succ)) (.succ (.succ (.succ (.succ (.succ (.succ (.succ (.zero _))))))))) rfl ?_
                  refine TL.run1 (pure_buildSlice (xs := [.tmp 140]) Ty.app34 (by decide) rfl rfl (.cons rfl (.agg _) rfl .nil)) rfl ?_
                  refine TL.append Ty.app34 rfl rfl (by intro _; repeat (first | exact UpdR.here _ | apply UpdR.there)) (by simp only [List.length_append, List.length_cons, List.length_nil]; omega) (by simp only [List.length_append, List.length_cons, List.length_nil]; omega) rfl (fun v142 hv142 => ?_)
                  refine TL.run1 (pure_assign rfl) rfl ?_
                  refine TL.nil ?_
                  refine block_normal ?_
                  refine then_normal ?_
                  refine TC.region ?_
                  refine TL.run1 (pure_move rfl) rfl ?_
                  refine TL.run1 (pure_add rfl rfl (mkI64 (by omega) (by omega))) rfl ?_
                  refine TL.run1 (pure_assign rfl) rfl ?_
                  refine TL.nil ?_
                  have hmv : mvA a (i : Nat) = 0 := by (unfold mvA; rw [if_pos hc127])
                  have hmc : encC (mrgC a (i : Nat) (cAt (rAt rs (i : Nat)).cells (k : Nat))) = encC { (cAt (rAt rs (i : Nat)).cells (k : Nat)) with props := putP (putP (cAt (rAt rs (i : Nat)).cells (k : Nat)).props 60 (a.r - a.l) 1) 61 0 0 } := by (unfold mrgC; rw [hmv]; rfl)
                  have hmk : mrgTo a (i : Nat) (rAt rs (i : Nat)) (k + 1) = mrgTo a (i : Nat) (rAt rs (i : Nat)) k ++ [mrgC a (i : Nat) (cAt (rAt rs (i : Nat)).cells (k : Nat))] := by (rw [mrgTo]; unfold mrgK; rw [if_neg hc113, if_neg hc120])
                  refine loop_next (k + 1, v142) ⟨by ((try dsimp only); rw [show (((k + 1 : Nat)) : Int) = (k : Int) + 1 by omega]; repeat (first | exact Agree.nil | refine Agree.cons rfl ?_)), by (try dsimp only); rw [hmk, encCs_snoc, hmc]; repeat (first | exact List.nil_sublist _ | exact List.Sublist.refl _ | apply List.Sublist.cons_cons | apply List.Sublist.cons)⟩ ⟨show k + 1 ≤ _ by omega, hv142⟩ (by (try dsimp only); omega)
                · try dsimp only at hc127
                  refine TC.skip' ?_
                  refine TC.seq ?_
                  have hpi := putP_inc hck1 60 (a.r - a.l) 1
                  have hpl := putP_len (cAt (rAt rs (i : Nat)).cells (k : Nat)).props 60 (a.r - a.l) 1
                  refine TC.region ?_
                  first | refine TL.run1 (pure_fieldAddr Ty.f74_1 rfl (.succ (.zero _)) (List.cons_ne_nil _ _)) rfl ?_ | refine TL.run1 (pure_fieldAddr_own Ty.f74_1 rfl) rfl ?_
                  first | refine TL.run1 (pure_fieldAddr Ty.f33_0 rfl (.zero _) (List.cons_ne_nil _ _)) rfl ?_ | refine TL.run1 (pure_fieldAddr_own Ty.f33_0 rfl) rfl ?_
                  first | refine TL.run1 (pure_load1 Ty.one27 rfl) rfl ?_ | refine TL.run1 (pure_load1_own Ty.one27 rfl (by repeat (first | exact List.Mem.head _ | apply List.Mem.tail)) (by repeat (first | exact DropR.zero _ | apply DropR.succ))) rfl ?_
                  refine TL.run1 (pure_move rfl) rfl ?_
                  refine TL.run1 (pure_move rfl) rfl ?_
                  refine TL.run1 (pure_sub rfl rfl (mkI64 (by omega) (by omega))) rfl ?_
                  first | refine TL.run1 (pure_call (setPut_spec (cAt (rAt rs (i : Nat)).cells (mn : Nat)).props hcm 61 1 0 (by omega)) (.cons rfl (.cons rfl (.cons rfl (.cons rfl .nil)))) Try.call49) rfl ?_ | refine TL.run1 (pure_call (setPut_spec (cAt (rAt rs (i : Nat)).cells (k : Nat)).props hck1 60 (a.r - a.l) 1 (by omega)) (.cons rfl (.cons rfl (.cons rfl (.cons rfl .nil)))) Try.call49) rfl ?_
                  refine TL.run1 (pure_move rfl) rfl ?_
                  refine TL.run1 (pure_call (setPut_spec (putP (cAt (rAt rs (i : Nat)).cells (k : Nat)).props 60 (a.r - a.l) 1) hpi 61 2 0 (by omega)) (.cons rfl (.cons rfl (.cons rfl (.cons rfl .nil)))) Try.call49) rfl ?_
                  first | refine TL.run1 (pure_fieldAddr Ty.f74_1 rfl (.succ (.zero _)) (List.cons_ne_nil _ _)) rfl ?_ | refine TL.run1 (pure_fieldAddr_own Ty.f74_1 rfl) rfl ?_
                  first | refine TL.run1 (pure_fieldAddr Ty.f33_0 rfl (.zero _) (List.cons_ne_nil _ _)) rfl ?_ | refine TL.run1 (pure_fieldAddr_own Ty.f33_0 rfl) rfl ?_
                  refine TL.store rfl rfl (.one (by first | rfl | assumption)) Try.sizeOf27 rfl (by repeat (first | exact UpdR.here _ | apply UpdR.there)) (by repeat (first | exact PutR.nil _ | apply PutR.here | apply PutR.skip)) ?_
                  refine TL.nil' ?_
                  refine TC.region ?_
                  refine TL.run1 (pure_move rfl) rfl ?_
                  first | refine TL.run1 (pure_load Ty.agg74 rfl (.succ (.succ (.succ (.succ (.succ (.succ (.succ (.zero _))))))))) rfl ?_ | refine TL.run1 (pure_load_own Ty.agg74 rfl (by repeat (first | exact List.Mem.head _ | apply List.Mem.tail)) (by repeat (first | exact DropR.zero _ | apply DropR.succ)) (.succ (.succ (.succ (.succ (.succ (.succ (.succ (.zero _))))))))) rfl ?_
                  refine TL.run1 (pure_buildSlice (xs := [.tmp 140]) Ty.app34 (by decide) rfl rfl (.cons rfl (.agg _) rfl .nil)) rfl ?_
                  refine TL.append Ty.app34 rfl rfl (by intro _; repeat (first | exact UpdR.here _ | apply UpdR.there)) (by simp only [List.length_append, List.length_cons, List.length_nil]; omega) (by simp only [List.length_append, List.length_cons, List.length_nil]; omega) rfl (fun v142 hv142 => ?_)
                  refine TL.run1 (pure_assign rfl) rfl ?_
                  refine TL.nil ?_
                  refine block_normal ?_
                  refine then_normal ?_
                  refine TC.region ?_
                  refine TL.run1 (pure_move rfl) rfl ?_
                  refine TL.run1 (pure_add rfl rfl (mkI64 (by omega) (by omega))) rfl ?_
                  refine TL.run1 (pure_assign rfl) rfl ?_
                  refine TL.nil ?_
                  have hmv : mvA a (i : Nat) = 2 := by (unfold mvA; rw [if_neg hc127, if_neg hc123])
                  have hmc : encC (mrgC a (i : Nat) (cAt (rAt rs (i : Nat)).cells (k : Nat))) = encC { (cAt (rAt rs (i : Nat)).cells (k : Nat)) with props := putP (putP (cAt (rAt rs (i : Nat)).cells (k : Nat)).props 60 (a.r - a.l) 1) 61 2 0 } := by (unfold mrgC; rw [hmv]; rfl)
                  have hmk : mrgTo a (i : Nat) (rAt rs (i : Nat)) (k + 1) = mrgTo a (i : Nat) (rAt rs (i : Nat)) k ++ [mrgC a (i : Nat) (cAt (rAt rs (i : Nat)).cells (k : Nat))] := by (rw [mrgTo]; unfold mrgK; rw [if_neg hc113, if_neg hc120])
                  refine loop_next (k + 1, v142) ⟨by ((try dsimp only); rw [show (((k + 1 : Nat)) : Int) = (k : Int) + 1 by omega]; repeat (first | exact Agree.nil | refine Agree.cons rfl ?_)), by (try dsimp only); rw [hmk, encCs_snoc, hmc]; repeat (first | exact List.nil_sublist _ | exact List.Sublist.refl _ | apply List.Sublist.cons_cons | apply List.Sublist.cons)⟩ ⟨show k + 1 ≤ _ by omega, hv142⟩ (by (try dsimp only); omega)
        · try dsimp only at hc87
          refine TC.exit ?_
          refine then_exit ?_
          refine loop_exit ?_
          refine block_here ?_
          refine then_normal ?_
          refine TC.seq ?_
          have hke : k = (rAt rs (i : Nat)).cells.length := by omega
          subst hke
          refine TC.region ?_
          refine TL.run1 (pure_move rfl) rfl ?_
          first | refine TL.run1 (pure_fieldAddr Ty.f36_1 rfl (.succ (.succ (.succ (.succ (.succ (.zero _)))))) (List.cons_ne_nil _ _)) rfl ?_ | refine TL.run1 (pure_fieldAddr_own Ty.f36_1 rfl) rfl ?_
          refine TL.store rfl rfl (.one (by first | rfl | assumption)) Try.sizeOf34 rfl (by repeat (first | exact UpdR.here _ | apply UpdR.there)) (by repeat (first | exact PutR.nil _ | apply PutR.here | apply PutR.skip)) ?_
          refine TL.nil' ?_
          refine TC.region ?_
          refine TL.run1 (pure_move rfl) rfl ?_
          refine TL.run1 (pure_load_own Ty.agg36 rfl (by repeat (first | exact List.Mem.head _ | apply List.Mem.tail)) (by repeat (first | exact DropR.zero _ | apply DropR.succ)) (.succ (.succ (.succ (.succ (.succ (.succ (.zero _)))))))) rfl ?_
          refine TL.frzRow 146 (.here _) (d' := .agg (encR (mrgR a (i : Nat) (rAt rs (i : Nat))))) rfl (fun M hM => (.aggL (.cons (.same _) (.cons (.same _) (.cons (.same _) (.cons (.same _) (.cons (.same _) (.cons (.rowS hM (by decide) (encCs_each _)) .nil)))))))) ?_
          refine TL.run1 (pure_buildSlice (xs := [.tmp 146]) Ty.app22 (by decide) rfl rfl (.cons rfl (.agg _) rfl .nil)) rfl ?_
          refine TL.append Ty.app22 rfl rfl (by intro _; repeat (first | exact UpdR.here _ | apply UpdR.there)) (by simp only [List.length_append, List.length_cons, List.length_nil]; omega) (by simp only [List.length_append, List.length_cons, List.length_nil]; omega) rfl (fun v148 hv148 => ?_)
          refine TL.run1 (pure_assign rfl) rfl ?_
          refine TL.nil ?_
          refine block_normal ?_
          refine then_normal ?_
          refine TC.region ?_
          refine TL.run1 (pure_move rfl) rfl ?_
          refine TL.run1 (pure_add rfl rfl (mkI64 (by omega) (by omega))) rfl ?_
          refine TL.run1 (pure_assign rfl) rfl ?_
          refine TL.nil ?_
          have hmI : mrgI rs a (i : Nat) = mrgR a (i : Nat) (rAt rs (i : Nat)) := by (unfold mrgI; rw [if_pos (by omega)])
          have hst := mrgT_step rs a i hil
          rw [hmI] at hst
          refine loop_next (i + 1, v148) ⟨by ((try dsimp only); rw [show (((i + 1 : Nat)) : Int) = (i : Int) + 1 by omega]; repeat (first | exact Agree.nil | refine Agree.cons rfl ?_)), by (try dsimp only); rw [hst]; repeat (first | exact List.nil_sublist _ | exact List.Sublist.refl _ | apply List.Sublist.cons_cons | apply List.Sublist.cons)⟩ (show i + 1 ≤ _ by omega) (by (try dsimp only); omega)
  · try dsimp only at hc24
    refine TC.exit ?_
    refine then_exit ?_
    refine loop_exit ?_
    refine block_here ?_
    refine then_normal ?_
    refine TC.seq ?_
    refine TC.region ?_
    refine TL.run1 (pure_move rfl) rfl ?_
    refine TL.run1 (pure_assign rfl) rfl ?_
    refine TL.nil' ?_
    refine TC.ret ?_
    have hie : i = rs.length := by omega
    subst hie
    have hend : (mrgT rs a).take rs.length = mrgT rs a := List.take_of_length_le (by rw [mrgT_len]; exact Nat.le_refl _)
    rw [hend]
    exact retF_row rfl (by repeat (first | exact List.Mem.head _ | apply List.Mem.tail)) (by decide) (encRs_each _) rfl
end Go.Ob
set_option linter.unusedVariables false
set_option linter.unusedSimpArgs false
namespace Go.Ob
open Go.Proofs
theorem spTo_le_end (r : RowD) (k : Int) (h0 : 0 ≤ k) (h1 : k ≤ r.cells.length) : spTo r k ≤ spTo r r.cells.length := by
  have := spTo_monoD r k h0 (r.cells.length - k.toNat) (by omega)
  rwa [show k + ((r.cells.length - k.toNat : Nat) : Int) = r.cells.length by omega] at this
theorem atN_full {rs : List RowD} {i c : Int} (h0 : 0 ≤ i) (h1 : i < rs.length) (hc : 0 ≤ c) : 0 ≤ atN (rAt rs i) c ↔ c < spTo (rAt rs i) (rAt rs i).cells.length := by
  constructor
  · intro h
    obtain ⟨hv, a, b⟩ := atN_of h0 h1 h
    have hk := hv.2.2.2.1
    unfold ncN at hk
    unfold spN at b
    rw [sAt_eq (rAt rs i) _ h hk] at b
    have := spTo_le_end (rAt rs i) (atN (rAt rs i) c + 1) (by omega) (by omega)
    dsimp only at b; omega
  · intro h
    have key : ∀ n : Nat, n ≤ (rAt rs i).cells.length → c < spTo (rAt rs i) n → ∃ k : Int, 0 ≤ k ∧ k < n ∧ spTo (rAt rs i) k ≤ c ∧ c < spTo (rAt rs i) (k + 1) := by
      intro n
      induction n with
      | zero => intro _ hh; simp [spTo] at hh; omega
      | succ n ih =>
        intro hn hh
        by_cases hc : c < spTo (rAt rs i) n
        · obtain ⟨k, x1, x2, x3, x4⟩ := ih (by omega) hc
          exact ⟨k, x1, by omega, x3, x4⟩
        · exact ⟨n, by omega, by omega, by omega, by rwa [show ((n + 1 : Nat) : Int) = (n : Int) + 1 by omega] at hh⟩
    obtain ⟨k, x1, x2, x3, x4⟩ := key (rAt rs i).cells.length (Nat.le_refl _) h
    have hs := sAt_eq (rAt rs i) k x1 (by omega)
    have y1 : (spN rs i k).1 ≤ c := by unfold spN; rw [hs]; exact x3
    have y2 : c < (spN rs i k).2 := by unfold spN; rw [hs]; exact x4
    rw [atN_cell (val_col ⟨h0, h1, x1, x2⟩ y1 y2) y1 y2]
    exact x1
open Classical in
noncomputable def fullB (rs : List RowD) (a : A4) : Bool := decide (FullA rs a)
open Classical in
noncomputable def fillB (rs : List RowD) (a : A4) : Bool := decide (FillA rs a)
theorem fullB_iff {rs : List RowD} {a : A4} : fullB rs a = true ↔ FullA rs a := by unfold fullB; simp
theorem fillB_iff {rs : List RowD} {a : A4} : fillB rs a = true ↔ FillA rs a := by unfold fillB; simp
theorem full_all {rs : List RowD} {a : A4} (hin : InsideA rs a) (h : ∀ j : Int, a.t ≤ j → j < a.b → ∀ c : Int, a.l ≤ c → c < a.r → 0 ≤ atN (rAt rs j) c) : FullA rs a := fun j h1 h2 => by
  unfold InsideA at hin
  have := (atN_full (rs := rs) (i := j) (c := a.r - 1) (by omega) (by omega) (by omega)).1 (h j h1 h2 _ (by omega) (by omega))
  omega
theorem full_at {rs : List RowD} {a : A4} (hin : InsideA rs a) (h : FullA rs a) {j c : Int} (h1 : a.t ≤ j) (h2 : j < a.b) (h3 : a.l ≤ c) (h4 : c < a.r) : 0 ≤ atN (rAt rs j) c := by
  unfold InsideA at hin
  have := h j h1 h2
  exact (atN_full (by omega) (by omega) (by omega)).2 (by omega)
theorem fill_at {rs : List RowD} {a : A4} {i k : Int} (h0 : 0 ≤ i) (h1 : i < rs.length) (h2 : 0 ≤ k) (h3 : k < (rAt rs i).cells.length) :
    FillC rs a i k ↔ ((sAt (spansR (rAt rs i)) k).1 < (sAt (spansR (rAt rs i)) k).2 ∧ (sAt (spansR (rAt rs i)) k).1 ≥ a.l ∧ (sAt (spansR (rAt rs i)) k).1 < a.r ∧ ((cAt (rAt rs i).cells k).flow.length : Int) > 0 ∧ (i ≠ a.t ∨ (sAt (spansR (rAt rs i)) k).1 ≠ a.l)) := by
  have hs := sAt_le (rAt rs i) k h2 h3
  unfold FillC Val spN ncN
  constructor
  · rintro ⟨⟨_, _, _, _, x⟩, y⟩; omega
  · rintro ⟨x1, x2, x3, x4, x5⟩; exact ⟨⟨h0, h1, h2, h3, by omega⟩, by omega⟩
theorem MrgOk.of {rs : List RowD} {a : A4} (hin : InsideA rs a) (hcv : covN rs a = a) (hf : FullA rs a) : MrgOk rs a :=
  ⟨hin, by have := (covN_cov hin.inA).closed; rwa [hcv] at this, hf⟩
theorem mrgT_mem {rs : List RowD} {a : A4} {r : RowD} (h : r ∈ mrgT rs a) : ∃ r0 ∈ rs, r = r0 ∨ (∃ i, r = mrgR a i r0) ∨ r = fixR a r0 := by
  simp only [mrgT, List.mem_map, List.mem_range] at h
  obtain ⟨j, hj, rfl⟩ := h
  refine ⟨rAt rs (j : Nat), rAt_mem rs _ (by omega) (by omega), ?_⟩
  unfold mrgI
  split
  · exact .inr (.inl ⟨_, rfl⟩)
  · split
    · exact .inr (.inr rfl)
    · exact .inl rfl
theorem mrgTo_mem {a : A4} {i : Int} {r : RowD} {c : CellD} : ∀ {n : Nat}, n ≤ r.cells.length → c ∈ mrgTo a i r n → ∃ c0 ∈ r.cells, c = c0 ∨ c = mrgC a i c0
  | 0, _, h => by cases h
  | n + 1, hn, h => by
    rw [mrgTo, List.mem_append] at h
    rcases h with h | h
    · exact mrgTo_mem (by omega) h
    · refine ⟨_, cAt_mem r.cells (n : Nat) (by omega) (by omega), ?_⟩
      unfold mrgK at h
      split at h
      · exact .inl (List.mem_singleton.1 h)
      · split at h
        · cases h
        · exact .inr (List.mem_singleton.1 h)
theorem fixR_mem {a : A4} {r : RowD} {c : CellD} (h : c ∈ (fixR a r).cells) : ∃ c0 ∈ r.cells, c = c0 ∨ c = putC c0 61 1 0 := by
  simp only [fixR, fixTo, List.mem_map, List.mem_range] at h
  obtain ⟨j, hj, rfl⟩ := h
  refine ⟨_, cAt_mem r.cells (j : Nat) (by omega) (by omega), ?_⟩
  rw [if_pos hj]
  unfold fixC
  split
  · exact .inr rfl
  · exact .inl rfl
theorem mrgT_cell {rs : List RowD} {a : A4} {r : RowD} (h : r ∈ mrgT rs a) : ∃ r0 ∈ rs, [r.hp, r.hi, r.hm, r.hd, r.hl] = [r0.hp, r0.hi, r0.hm, r0.hd, r0.hl] ∧ r.cells.length ≤ r0.cells.length ∧ ∀ c ∈ r.cells, ∃ c0 ∈ r0.cells, ∃ ps, c = { c0 with props := ps } ∧ ps.length ≤ c0.props.length + 2 ∧ (Inc (keysP c0.props) → Inc (keysP ps)) := by
  obtain ⟨r0, h0, hc⟩ := mrgT_mem h
  refine ⟨r0, h0, ?_⟩
  rcases hc with rfl | ⟨i, rfl⟩ | rfl
  · exact ⟨rfl, Nat.le_refl _, fun c hc => ⟨c, hc, c.props, rfl, by omega, fun h => h⟩⟩
  · refine ⟨rfl, mrgTo_len _ _ _ _, fun c hc => ?_⟩
    obtain ⟨c0, hc0, rfl | rfl⟩ := mrgTo_mem (Nat.le_refl _) hc
    · exact ⟨c, hc0, c.props, rfl, by omega, fun h => h⟩
    · refine ⟨c0, hc0, putP (putP c0.props 60 (a.r - a.l) 1) 61 (mvA a i) 0, rfl, ?_, fun h => putP_inc (putP_inc h _ _ _) _ _ _⟩
      have h1 := putP_len c0.props 60 (a.r - a.l) 1
      have h2 := putP_len (putP c0.props 60 (a.r - a.l) 1) 61 (mvA a i) 0
      omega
  · refine ⟨rfl, by rw [show (fixR a r0).cells.length = r0.cells.length from fixTo_len _ _ _]; exact Nat.le_refl _, fun c hc => ?_⟩
    obtain ⟨c0, hc0, rfl | rfl⟩ := fixR_mem hc
    · exact ⟨c, hc0, c.props, rfl, by omega, fun h => h⟩
    · refine ⟨c0, hc0, putP c0.props 61 1 0, rfl, ?_, fun h => putP_inc h _ _ _⟩
      have h1 := putP_len c0.props 61 1 0
      omega
theorem mrgT_ok {rs : List RowD} (a : A4) (hr : TabOk rs) (hP : ∀ r ∈ rs, ∀ c ∈ r.cells, c.props.length ≤ 900) : TabOk (mrgT rs a) := by
  refine ⟨fun r h => ?_, by rw [mrgT_len]; exact hr.2⟩
  obtain ⟨r0, h0, _, h1, h2⟩ := mrgT_cell h
  obtain ⟨x1, x2, x3⟩ := hr.1 r0 h0
  refine ⟨fun c hc => ?_, by omega, by omega⟩
  obtain ⟨c0, y1, ps, rfl, y2, y3⟩ := h2 c hc
  have := hP r0 h0 c0 y1
  exact ⟨y3 (x1 c0 y1).1, by dsimp only; omega⟩
theorem HeadT.props2 {a b c d : D} {ps qs : List (Int × Int)} (h : HeadT [.sl 2 (encP ps), a, b, c, d]) (hl : qs.length ≤ 9223372036854775807) : HeadT [.sl 2 (encP qs), a, b, c, d] := by
  obtain ⟨ps', a', b', dl, ly, he, h1, h2, h3⟩ := h
  have e := List.cons.inj he
  exact ⟨qs, a', b', dl, ly, by rw [e.2], hl, h2, h3⟩
theorem mrgT_T {rs : List RowD} (a : A4) (hT : TabT rs) (hP : ∀ r ∈ rs, ∀ c ∈ r.cells, c.props.length ≤ 900) : TabT (mrgT rs a) := by
  refine ⟨by rw [mrgT_len]; exact hT.1, fun r h => ?_⟩
  obtain ⟨r0, h0, h9, h1, h2⟩ := mrgT_cell h
  obtain ⟨t1, t2, t3⟩ := hT.2 r0 h0
  refine ⟨by rw [h9]; exact t1, by omega, fun c hc => ?_⟩
  obtain ⟨c0, y1, ps, rfl, y2, y3⟩ := h2 c hc
  have := hP r0 h0 c0 y1
  have z := t3 c0 y1
  exact ⟨z.1, z.2.1.props2 (show ps.length ≤ 9223372036854775807 by omega), z.2.2⟩
def encAs (l : List A4) : List (List D) := l.map encA
theorem encAs_len (l : List A4) : (encAs l).length = l.length := by simp [encAs]
theorem encAs_snoc (l : List A4) (x : A4) : encAs (l ++ [x]) = encAs l ++ [encA x] := by simp [encAs]
def outTo (rs : List RowD) (a : A4) (n : Nat) : List A4 := (((layRects rs).take n).map arQ).filter (outB a)
theorem outTo_len (rs : List RowD) (a : A4) (n : Nat) : (outTo rs a n).length ≤ n := by
  unfold outTo
  refine Nat.le_trans (List.length_filter_le _ _) ?_
  rw [List.length_map, List.length_take]; omega
theorem outTo_step (rs : List RowD) (a : A4) (n : Nat) (h : n < (layRects rs).length) : outTo rs a (n + 1) = outTo rs a n ++ (if outB a (arQ (qAt (layRects rs) (n : Nat))) = true then [arQ (qAt (layRects rs) (n : Nat))] else []) := by
  unfold outTo
  rw [List.take_add_one, List.getElem?_eq_getElem h, List.map_append, List.filter_append]
  have e : qAt (layRects rs) (n : Nat) = (layRects rs)[n] := by simp [qAt, h]
  rw [e]
  congr 1
  simp only [Option.toList_some, List.map_cons, List.map_nil, List.filter_cons, List.filter_nil]
theorem outTo_all (rs : List RowD) (a : A4) : outTo rs a (layRects rs).length = ((layRects rs).map arQ).filter (outB a) := by
  unfold outTo; rw [List.take_length]
theorem ins_at {α : Type} (X Y : List α) (x : α) (i : Nat) (hi : i < (X ++ x :: Y).length) : (i = X.length → (X ++ x :: Y)[i]? = some x) ∧ (i ≠ X.length → (X ++ Y)[if i ≤ X.length then i else i - 1]? = (X ++ x :: Y)[i]?) := by
  constructor
  · rintro rfl
    simp
  · intro hne
    by_cases hl : i ≤ X.length
    · rw [if_pos hl, List.getElem?_append_left (by omega), List.getElem?_append_left (by omega)]
    · rw [if_neg hl, List.getElem?_append_right (by omega), List.getElem?_append_right (by omega)]
      rw [show i - X.length = (i - 1 - X.length) + 1 by omega, List.getElem?_cons_succ]
theorem MrgOk.walk {rs : List RowD} {a : A4} (h : MrgOk rs a) : ∃ p : Nat, p < (layRects (mrgT rs a)).length ∧ (layRects (mrgT rs a)).length = (outTo rs a (layRects rs).length).length + 1 ∧
    ∀ i : Nat, i < (layRects (mrgT rs a)).length → (i = p ↔ arQ (qAt (layRects (mrgT rs a)) (i : Nat)) = a) ∧ (i ≠ p → (outTo rs a (layRects rs).length)[if i ≤ p then i else i - 1]? = some (arQ (qAt (layRects (mrgT rs a)) (i : Nat)))) := by
  obtain ⟨X, Y, e1, e2⟩ := h.rects
  rw [outTo_all]
  have l1 := congrArg List.length e1
  have l2 := congrArg List.length e2
  simp only [List.length_map, List.length_append, List.length_cons] at l1 l2
  refine ⟨X.length, by omega, by omega, fun i hi => ?_⟩
  have hq : (X ++ a :: Y)[i]? = some (arQ (qAt (layRects (mrgT rs a)) (i : Nat))) := by
    rw [← e1, List.getElem?_map, List.getElem?_eq_getElem hi]
    simp [qAt, hi]
  obtain ⟨i1, i2⟩ := ins_at X Y a i (by simp only [List.length_append, List.length_cons]; omega)
  rw [hq] at i1 i2
  refine ⟨⟨fun hh => Option.some.inj (i1 hh), fun hh => Classical.byContradiction fun hne => ?_⟩, fun hne => by rw [e2]; exact i2 hne⟩
  have := List.mem_of_getElem? (i2 hne)
  rw [hh, ← e2] at this
  have := (List.mem_filter.1 this).2
  unfold outB at this
  have hb := h.b
  have := of_decide_eq_true this
  omega
end Go.Ob
