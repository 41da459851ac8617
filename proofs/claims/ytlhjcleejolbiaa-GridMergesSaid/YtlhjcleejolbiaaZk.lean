import Derived.Test.YtlhjcleejolbiaaZj
set_option linter.unusedVariables false
set_option linter.unusedSimpArgs false
set_option linter.unnecessarySimpa false
set_option linter.unusedVariables false
set_option linter.unusedSimpArgs false
namespace Go.Ob
open Go.Proofs
def vAt (vs : List Value) (j : Nat) : Value := vs.getD j (.bool false)
theorem inB_drop (rs : List RowD) (vs : List Value) (i : Nat) (h : i < rs.length) (hv : vs.length = rs.length) : inB (rs.drop i) (vs.drop i) = Blk.row (vAt vs i) 74 7 (encCs (rAt rs (i : Nat)).cells) :: inB (rs.drop (i + 1)) (vs.drop (i + 1)) := by
  have hv2 : i < vs.length := by omega
  have e1 : rAt rs (i : Nat) = rs[i] := by simp [rAt, h]
  have e2 : vAt vs i = vs[i] := by simp [vAt, hv2]
  rw [e1, e2]
  unfold inB
  rw [List.drop_eq_getElem_cons h, List.drop_eq_getElem_cons hv2, List.zipWith_cons_cons]
theorem inB_split (rs : List RowD) (vs : List Value) (i : Nat) (hv : vs.length = rs.length) : inB rs vs = inB (rs.take i) (vs.take i) ++ inB (rs.drop i) (vs.drop i) := by
  conv => lhs; rw [← List.take_append_drop i rs, ← List.take_append_drop i vs]
  unfold inB
  rw [List.zipWith_append (by rw [List.length_take, List.length_take]; omega)]
theorem inB_mem (rs : List RowD) (vs : List Value) (j : Nat) (h : j < rs.length) (hv : vs.length = rs.length) {a b : Nat} (hj : j < a ∨ b ≤ j) : Blk.row (vAt vs j) 74 7 (encCs (rAt rs (j : Nat)).cells) ∈ inB (rs.drop b) (vs.drop b) ++ inB (rs.take a) (vs.take a) := by
  have key : ∀ (rs : List RowD) (vs : List Value) (j : Nat), j < rs.length → vs.length = rs.length → Blk.row (vAt vs j) 74 7 (encCs (rAt rs (j : Nat)).cells) ∈ inB rs vs := fun rs vs j h hv => by
    rw [inB_split rs vs j hv, inB_drop rs vs j h hv]; simp
  rcases hj with hj | hj
  · refine List.mem_append_right _ ?_
    have := key (rs.take a) (vs.take a) j (by rw [List.length_take]; omega) (by rw [List.length_take, List.length_take]; omega)
    have e1 : rAt (rs.take a) (j : Nat) = rAt rs (j : Nat) := by
      unfold rAt
      rw [Int.toNat_natCast, List.getD_eq_getElem?_getD, List.getD_eq_getElem?_getD, List.getElem?_take_of_lt hj]
    have e2 : vAt (vs.take a) j = vAt vs j := by
      unfold vAt
      rw [List.getD_eq_getElem?_getD, List.getD_eq_getElem?_getD, List.getElem?_take_of_lt hj]
    rwa [e1, e2] at this
  · refine List.mem_append_left _ ?_
    have := key (rs.drop b) (vs.drop b) (j - b) (by rw [List.length_drop]; omega) (by rw [List.length_drop, List.length_drop]; omega)
    have e1 : rAt (rs.drop b) ((j - b : Nat) : Int) = rAt rs (j : Nat) := by
      unfold rAt
      rw [Int.toNat_natCast, Int.toNat_natCast, List.getD_eq_getElem?_getD, List.getD_eq_getElem?_getD, List.getElem?_drop, show b + (j - b) = j by omega]
    have e2 : vAt (vs.drop b) (j - b) = vAt vs j := by
      unfold vAt
      rw [List.getD_eq_getElem?_getD, List.getD_eq_getElem?_getD, List.getElem?_drop, show b + (j - b) = j by omega]
    rwa [e1, e2] at this
theorem FrzR.rows {M : Blk → Prop} {v : Value} {e es : Nat} {xs xs' : List (List D)} (hm : M (.row v e es xs)) (hes : 0 < es) (hl : xs.length = xs'.length) (h1 : ∀ x ∈ xs, x.length = es) (h2 : ∀ x ∈ xs', x.length = es)
    (h : ∀ (i r : Nat) (x x' : List D) (d d' : D), xs[i]? = some x → xs'[i]? = some x' → x[r]? = some d → x'[r]? = some d' → FrzR M d d') : FrzR M (.v v) (.sl es xs') := by
  have key : ∀ (ys : List (List D)), (∀ y ∈ ys, y.length = es) → ∀ (j : Nat) (d : D), ys.flatten[j]? = some d → ∃ y, ys[j / es]? = some y ∧ y[j % es]? = some d := by
    intro ys
    induction ys with
    | nil => intro _ j d hd; simp at hd
    | cons y ys ih =>
      intro hy j d hd
      rw [List.flatten_cons] at hd
      have hyl := hy y (by simp)
      by_cases hj : j < es
      · rw [List.getElem?_append_left (by omega)] at hd
        exact ⟨y, by rw [Nat.div_eq_of_lt hj]; rfl, by rw [Nat.mod_eq_of_lt hj]; exact hd⟩
      · rw [List.getElem?_append_right (by omega), hyl] at hd
        obtain ⟨z, hz1, hz2⟩ := ih (fun z hz => hy z (by simp [hz])) _ _ hd
        have e1 : j / es = (j - es) / es + 1 := by rw [← Nat.sub_add_cancel (show es ≤ j by omega), Nat.add_div_right _ hes, Nat.add_sub_cancel]
        have e2 : j % es = (j - es) % es := (Nat.mod_eq_sub_mod (by omega))
        exact ⟨z, by rw [e1]; exact hz1, by rw [e2]; exact hz2⟩
  refine .row v e es xs xs' hm hes hl h2 fun j d d' hd hd' => ?_
  obtain ⟨x, hx1, hx2⟩ := key xs h1 j d hd
  obtain ⟨x', hx1', hx2'⟩ := key xs' h2 j d' hd'
  exact h _ _ x x' d d' hx1 hx1' hx2 hx2'
end Go.Ob
set_option linter.unusedVariables false
set_option linter.unusedSimpArgs false
namespace Go.Ob
open Go.Proofs
theorem setTo_clear (ps : List (Int × Int)) (key u : Int) : ∀ (i : Nat), i ≤ ps.length → setTo ps key u u i = (clearP (ps.take i) key, true)
  | 0, _ => by simp [setTo, clearP]
  | i + 1, h => by
    rw [setTo, setTo_clear ps key u i (by omega), List.take_add_one, List.getElem?_eq_getElem (by omega)]
    have e : pAt ps (i : Nat) = ps[i] := by simp [pAt, show i < ps.length by omega]
    rw [e]
    unfold setStep clearP
    rw [List.filter_append]
    by_cases hk : ps[i].1 = key
    · rw [if_neg (fun h => h hk)]; simp [List.filter_cons, hk]
    · rw [if_pos hk]; simp [List.filter_cons, hk]
theorem setR_clear (ps : List (Int × Int)) (key u : Int) : setR ps key u u = clearP ps key := by
  unfold setR
  rw [setTo_clear ps key u ps.length (Nat.le_refl _), List.take_length]; rfl
end Go.Ob
set_option linter.unusedVariables false
set_option linter.unusedSimpArgs false
namespace Go.Ob
open Go.Proofs
abbrev Lay4 := Int × Int × Int × Bool
def encY (l : List Lay4) : List (List D) := l.map fun y => [.v (.int .i64 y.1), .v (.int .i64 y.2.1), .v (.int .i64 y.2.2.1), .v (.bool y.2.2.2)]
def yAt (l : List Lay4) (i : Int) : Lay4 := l.getD i.toNat (0, 0, 0, false)
theorem encY_len (l : List Lay4) : (encY l).length = l.length := by simp [encY]
theorem encY_get (l : List Lay4) (i : Int) (h0 : 0 ≤ i) (h1 : i < l.length) : (encY l)[i.toNat]? = some [.v (.int .i64 (yAt l i).1), .v (.int .i64 (yAt l i).2.1), .v (.int .i64 (yAt l i).2.2.1), .v (.bool (yAt l i).2.2.2)] := by
  have : i.toNat < l.length := by omega
  simp [encY, yAt, this]
def HeadT (ds : List D) : Prop := ∃ ps a b dl ly, ds = [.sl 2 (encP ps), .v (.int .i64 a), .v (.int .i64 b), .sl 2 (encP dl), .sl 4 (encY ly)] ∧ ps.length ≤ 9223372036854775807 ∧ dl.length ≤ 9223372036854775807 ∧ ly.length ≤ 9223372036854775807
def FlowT (fl : List (List D)) : Prop := fl.length ≤ 9223372036854775807 ∧ ∀ x ∈ fl, ∃ a b c s tl, x = .v (.int .i64 a) :: .v (.int .i64 b) :: .v (.int .i64 c) :: .v (.string s) :: tl
theorem FlowT.get {fl : List (List D)} (h : FlowT fl) (i : Int) (h0 : 0 ≤ i) (h1 : i < fl.length) : ∃ a b c s tl, fl[i.toNat]? = some (.v (.int .i64 a) :: .v (.int .i64 b) :: .v (.int .i64 c) :: .v (.string s) :: tl) := by
  have hl : i.toNat < fl.length := by omega
  obtain ⟨a, b, c, s, tl, he⟩ := h.2 _ (List.getElem_mem hl)
  exact ⟨a, b, c, s, tl, by rw [List.getElem?_eq_getElem hl, he]⟩
def CellT (c : CellD) : Prop := (∃ id, c.id = .v (.int .i64 id)) ∧ HeadT [.sl 2 (encP c.props), c.ins, c.move, c.dels, c.layers] ∧ FlowT c.flow
def TabT (rs : List RowD) : Prop := rs.length ≤ 9223372036854775807 ∧ ∀ r ∈ rs, HeadT [r.hp, r.hi, r.hm, r.hd, r.hl] ∧ r.cells.length ≤ 9223372036854775807 ∧ ∀ c ∈ r.cells, CellT c
set_option maxHeartbeats 1000000 in
set_option maxRecDepth 100000 in
theorem Rsame0_spec (ps : List (Int × Int)) (a b : Int) (dl : List (Int × Int)) (ly : List Lay4) (h1 : ps.length ≤ 9223372036854775807) (h2 : dl.length ≤ 9223372036854775807) (h3 : ly.length ≤ 9223372036854775807) : Fun Try.prog 50 [.agg [.sl 2 (encP ps), .v (.int .i64 a), .v (.int .i64 b), .sl 2 (encP dl), .sl 4 (encY ly)], .agg [.sl 2 (encP ps), .v (.int .i64 a), .v (.int .i64 b), .sl 2 (encP dl), .sl 4 (encY ly)]] (.v (.bool true)) := by
  refine Fun.enter (n := 107) (rs := [.tmp 4]) Try.func50 rfl Try.ntmps50 Try.results50 rfl (fun w F => ?_)
  have hkp := encP_len ps
  have hkd := encP_len dl
  have hky := encY_len ly
  refine TC.seq ?_
  refine TC.region ?_
  refine TL.box rfl (.agg _) rfl (fun g2 => ?_)
  refine TL.box rfl (.agg _) rfl (fun g3 => ?_)
  refine TL.run1 (pure_assign rfl) rfl ?_
  refine TL.nil' ?_
  refine TC.seq ?_
  refine TC.freezeBox 3 (List.cons_ne_nil _ _) (.here _) rfl ?_
  refine TC.freezeBox 2 (List.cons_ne_nil _ _) (.here _) rfl ?_
  refine TC.thenCut (fun env H => ∃ g5 g6, At env H [(2, .at_ [.sl 2 (encP ps), .v (.int .i64 a), .v (.int .i64 b), .sl 2 (encP dl), .sl 4 (encY ly)]), (3, .at_ [.sl 2 (encP ps), .v (.int .i64 a), .v (.int .i64 b), .sl 2 (encP dl), .sl 4 (encY ly)]), (5, .v (.pointer (some ⟨g5, 0, none⟩))), (6, .v (.pointer (some ⟨g6, 0, none⟩)))] [Blk.box g5 31 [.v (.int .i64 a), .v (.int .i64 b), .sl 2 (encP dl), .sl 4 (encY ly)], Blk.box g6 31 [.v (.int .i64 a), .v (.int .i64 b), .sl 2 (encP dl), .sl 4 (encY ly)]]) ?_ ?_
  · refine TC.drawSp 7 [4, 5, 6] [] Ty.follows (by decide) (by kernel_rfl) (by kernel_rfl) (by kernel_rfl) ?_
    first | refine TD.run1 (pure_fieldAddr Ty.f33_1 rfl (.succ (.zero _)) (List.cons_ne_nil _ _)) rfl ?_ | refine TD.run1 (pure_fieldAddr_own Ty.f33_1 rfl) rfl ?_
    first | refine TD.run1 (pure_load Ty.agg31 rfl (.succ (.succ (.succ (.succ (.zero _)))))) rfl ?_ | refine TD.run1 (pure_load_own Ty.agg31 rfl (by repeat (first | exact List.Mem.head _ | apply List.Mem.tail)) (by repeat (first | exact DropR.zero _ | apply DropR.succ)) (.succ (.succ (.succ (.succ (.zero _)))))) rfl ?_
    first | refine TD.run1 (pure_fieldAddr Ty.f33_1 rfl (.succ (.zero _)) (List.cons_ne_nil _ _)) rfl ?_ | refine TD.run1 (pure_fieldAddr_own Ty.f33_1 rfl) rfl ?_
    first | refine TD.run1 (pure_load Ty.agg31 rfl (.succ (.succ (.succ (.succ (.zero _)))))) rfl ?_ | refine TD.run1 (pure_load_own Ty.agg31 rfl (by repeat (first | exact List.Mem.head _ | apply List.Mem.tail)) (by repeat (first | exact DropR.zero _ | apply DropR.succ)) (.succ (.succ (.succ (.succ (.zero _)))))) rfl ?_
    refine TD.mute (TD.mute (TD.mute (TD.nil ?_)))
    refine ⟨⟨_, SplitR.none _⟩, fun s hs hb => ?_⟩
    simp only [List.mem_cons, List.not_mem_nil, or_false] at hs
    rcases hs with rfl | rfl | rfl
    · refine ⟨_, rfl, rfl, fun E eF he hx => ?_⟩
      subst he
      refine TL.alloc Ty.zero31 rfl (fun g5 => TL.nil ⟨rfl, _, rfl, ?_⟩)
      refine ⟨⟨_, SplitR.none _⟩, fun s hs hb => ?_⟩
      rw [show ([4, 5, 6] : List Nat).erase 4 = [5, 6] from rfl] at *
      simp only [List.mem_cons, List.not_mem_nil, or_false] at hs
      rcases hs with rfl | rfl
      · refine ⟨_, rfl, rfl, fun E eF he hx => ?_⟩
        subst he
        refine TL.alloc Ty.zero31 rfl (fun g6 => TL.nil ⟨rfl, _, rfl, ?_⟩)
        refine ⟨⟨_, SplitR.none _⟩, fun s hs hb => ?_⟩
        rw [show ([5, 6] : List Nat).erase 5 = [6] from rfl] at *
        simp only [List.mem_cons, List.not_mem_nil, or_false] at hs
        subst hs
        refine ⟨_, rfl, rfl, fun E eF he hx => ?_⟩
        subst he
        refine TL.store ((hx (.tmp 5) (by simp [Op.operands])).trans rfl) ((hx (.tmp 11) (by simp [Op.operands])).trans rfl) (.agg _) Try.sizeOf31 rfl (by repeat (first | exact UpdR.here _ | apply UpdR.there)) (by repeat (first | exact PutR.nil _ | apply PutR.here | apply PutR.skip)) (TL.nil ⟨rfl, none, rfl, ?_⟩)
        refine ⟨⟨_, SplitR.none _⟩, fun e he => ?_⟩
        subst he
        refine TL.store rfl rfl (.agg _) Try.sizeOf31 rfl (by repeat (first | exact UpdR.here _ | apply UpdR.there)) (by repeat (first | exact PutR.nil _ | apply PutR.here | apply PutR.skip)) ?_
        refine TL.perm (H' := [Blk.box g5 31 [.v (.int .i64 a), .v (.int .i64 b), .sl 2 (encP dl), .sl 4 (encY ly)], Blk.box g6 31 [.v (.int .i64 a), .v (.int .i64 b), .sl 2 (encP dl), .sl 4 (encY ly)]]) (List.Perm.swap _ _ _) ?_
        exact TL.nil ⟨rfl, g5, g6, ⟨by repeat (first | exact Agree.nil | refine Agree.cons rfl ?_), by repeat (first | exact List.nil_sublist _ | exact List.Sublist.refl _ | apply List.Sublist.cons_cons | apply List.Sublist.cons)⟩⟩
      · exact absurd (hb 5 (by simp)) (by decide +kernel)
    · refine ⟨_, rfl, rfl, fun E eF he hx => ?_⟩
      subst he
      refine TL.alloc Ty.zero31 rfl (fun g6 => TL.nil ⟨rfl, _, rfl, ?_⟩)
      refine ⟨⟨_, SplitR.none _⟩, fun s hs hb => ?_⟩
      rw [show ([4, 5, 6] : List Nat).erase 5 = [4, 6] from rfl] at *
      simp only [List.mem_cons, List.not_mem_nil, or_false] at hs
      rcases hs with rfl | rfl
      · refine ⟨_, rfl, rfl, fun E eF he hx => ?_⟩
        subst he
        refine TL.alloc Ty.zero31 rfl (fun g5 => TL.nil ⟨rfl, _, rfl, ?_⟩)
        refine ⟨⟨_, SplitR.none _⟩, fun s hs hb => ?_⟩
        rw [show ([4, 6] : List Nat).erase 4 = [6] from rfl] at *
        simp only [List.mem_cons, List.not_mem_nil, or_false] at hs
        subst hs
        refine ⟨_, rfl, rfl, fun E eF he hx => ?_⟩
        subst he
        refine TL.store ((hx (.tmp 5) (by simp [Op.operands])).trans rfl) ((hx (.tmp 11) (by simp [Op.operands])).trans rfl) (.agg _) Try.sizeOf31 rfl (by repeat (first | exact UpdR.here _ | apply UpdR.there)) (by repeat (first | exact PutR.nil _ | apply PutR.here | apply PutR.skip)) (TL.nil ⟨rfl, none, rfl, ?_⟩)
        refine ⟨⟨_, SplitR.none _⟩, fun e he => ?_⟩
        subst he
        refine TL.store rfl rfl (.agg _) Try.sizeOf31 rfl (by repeat (first | exact UpdR.here _ | apply UpdR.there)) (by repeat (first | exact PutR.nil _ | apply PutR.here | apply PutR.skip)) ?_
        exact TL.nil ⟨rfl, g5, g6, ⟨by repeat (first | exact Agree.nil | refine Agree.cons rfl ?_), by repeat (first | exact List.nil_sublist _ | exact List.Sublist.refl _ | apply List.Sublist.cons_cons | apply List.Sublist.cons)⟩⟩
      · exact absurd (hb 4 (by simp)) (by decide +kernel)
    · exact absurd (hb 4 (by simp)) (by decide +kernel)
  · rintro env' H' ⟨g5, g6, ha⟩
    refine TC.at ha ?_
    refine TC.seq ?_
    refine TC.freezeBox 5 (List.cons_ne_nil _ _) (.here _) rfl ?_
    refine TC.freezeBox 6 (List.cons_ne_nil _ _) (.here _) rfl ?_
    refine TC.regionCut [14, 15, 16, 17, 18, 19, 20, 21, 22, 23, 24, 25, 26, 27, 28, 29, 30, 31, 32, 33, 34, 35, 36, 37, 38, 39, 40, 41, 42, 43, 44, 45, 46, 47, 48, 49, 50, 51, 52] 52 (False) ?_ ?_
    · skip
      first | refine TL.run1 (pure_fieldAddr Ty.f33_0 rfl (.zero _) (List.cons_ne_nil _ _)) rfl ?_ | refine TL.run1 (pure_fieldAddr_own Ty.f33_0 rfl) rfl ?_
      first | refine TL.run1 (pure_load1 Ty.one27 rfl) rfl ?_ | refine TL.run1 (pure_load1_own Ty.one27 rfl (by repeat (first | exact List.Mem.head _ | apply List.Mem.tail)) (by repeat (first | exact DropR.zero _ | apply DropR.succ))) rfl ?_
      first | refine TL.run1 (pure_len Ty.sl27 rfl) rfl ?_ | refine TL.run1 (pure_len_row Ty.sl27 rfl (by repeat (first | exact List.Mem.head _ | apply List.Mem.tail))) rfl ?_ | refine TL.run1 (pure_len_nil Ty.sl27 rfl) rfl ?_
      first | refine TL.run1 (pure_fieldAddr Ty.f33_0 rfl (.zero _) (List.cons_ne_nil _ _)) rfl ?_ | refine TL.run1 (pure_fieldAddr_own Ty.f33_0 rfl) rfl ?_
      first | refine TL.run1 (pure_load1 Ty.one27 rfl) rfl ?_ | refine TL.run1 (pure_load1_own Ty.one27 rfl (by repeat (first | exact List.Mem.head _ | apply List.Mem.tail)) (by repeat (first | exact DropR.zero _ | apply DropR.succ))) rfl ?_
      first | refine TL.run1 (pure_len Ty.sl27 rfl) rfl ?_ | refine TL.run1 (pure_len_row Ty.sl27 rfl (by repeat (first | exact List.Mem.head _ | apply List.Mem.tail))) rfl ?_ | refine TL.run1 (pure_len_nil Ty.sl27 rfl) rfl ?_
      refine TL.run1 (pure_neq rfl rfl) rfl ?_
      refine TL.run1 (pure_move rfl) rfl ?_
      first | refine TL.splitP 21 rfl (fun hg21 => ?_) (fun hg21 => ?_) | refine TL.split 21 rfl (fun hg21 => ?_) (fun hg21 => ?_)
      · try dsimp only at hg21
        refine TL.passG rfl rfl rfl rfl ?_
        refine TL.passG rfl rfl rfl rfl ?_
        refine TL.passG rfl rfl rfl rfl ?_
        refine TL.passG rfl rfl rfl rfl ?_
        refine TL.passG rfl rfl rfl rfl ?_
        refine TL.run1 (pure_pick_true rfl rfl) rfl ?_
        refine TL.run1 (pure_move rfl) rfl ?_
        refine TL.passG rfl rfl rfl rfl ?_
        refine TL.passG rfl rfl rfl rfl ?_
        refine TL.passG rfl rfl rfl rfl ?_
        refine TL.passG rfl rfl rfl rfl ?_
        refine TL.passG rfl rfl rfl rfl ?_
        refine TL.run1 (pure_pick_true rfl rfl) rfl ?_
        refine TL.run1 (pure_move rfl) rfl ?_
        refine TL.passG rfl rfl rfl rfl ?_
        refine TL.passG rfl rfl rfl rfl ?_
        refine TL.passG rfl rfl rfl rfl ?_
        refine TL.passG rfl rfl rfl rfl ?_
        refine TL.passG rfl rfl rfl rfl ?_
        refine TL.passG rfl rfl rfl rfl ?_
        refine TL.passG rfl rfl rfl rfl ?_
        refine TL.run1 (pure_pick_true rfl rfl) rfl ?_
        refine TL.run1 (pure_move rfl) rfl ?_
        refine TL.passG rfl rfl rfl rfl ?_
        refine TL.passG rfl rfl rfl rfl ?_
        refine TL.passG rfl rfl rfl rfl ?_
        refine TL.passG rfl rfl rfl rfl ?_
        refine TL.passG rfl rfl rfl rfl ?_
        refine TL.passG rfl rfl rfl rfl ?_
        refine TL.passG rfl rfl rfl rfl ?_
        refine TL.run1 (pure_pick_true rfl rfl) rfl ?_
        refine TL.cutEnd (by repeat (first | exact Same.refl _ _ | refine Same.put rfl ?_)) rfl ?_
        first | (simp_all; done) | grind
      · try dsimp only at hg21
        first | refine TL.runG rfl rfl (pure_fieldAddr Ty.f31_0 rfl (.zero _) (List.cons_ne_nil _ _)) rfl ?_ | refine TL.runG rfl rfl (pure_fieldAddr_own Ty.f31_0 rfl) rfl ?_
        first | refine TL.runG rfl rfl (pure_load1 Ty.one3 rfl) rfl ?_ | refine TL.runG rfl rfl (pure_load1_own Ty.one3 rfl (by repeat (first | exact List.Mem.head _ | apply List.Mem.tail)) (by repeat (first | exact DropR.zero _ | apply DropR.succ))) rfl ?_
        first | refine TL.runG rfl rfl (pure_fieldAddr Ty.f31_0 rfl (.zero _) (List.cons_ne_nil _ _)) rfl ?_ | refine TL.runG rfl rfl (pure_fieldAddr_own Ty.f31_0 rfl) rfl ?_
        first | refine TL.runG rfl rfl (pure_load1 Ty.one3 rfl) rfl ?_ | refine TL.runG rfl rfl (pure_load1_own Ty.one3 rfl (by repeat (first | exact List.Mem.head _ | apply List.Mem.tail)) (by repeat (first | exact DropR.zero _ | apply DropR.succ))) rfl ?_
        refine TL.runG rfl rfl (pure_neq rfl rfl) rfl ?_
        refine TL.run1 (pure_pick_false rfl rfl) rfl ?_
        refine TL.run1 (pure_move rfl) rfl ?_
        first | refine TL.splitP 28 rfl (fun hg28 => ?_) (fun hg28 => ?_) | refine TL.split 28 rfl (fun hg28 => ?_) (fun hg28 => ?_)
        · try dsimp only at hg28
          refine TL.passG rfl rfl rfl rfl ?_
          refine TL.passG rfl rfl rfl rfl ?_
          refine TL.passG rfl rfl rfl rfl ?_
          refine TL.passG rfl rfl rfl rfl ?_
          refine TL.passG rfl rfl rfl rfl ?_
          refine TL.run1 (pure_pick_true rfl rfl) rfl ?_
          refine TL.run1 (pure_move rfl) rfl ?_
          refine TL.passG rfl rfl rfl rfl ?_
          refine TL.passG rfl rfl rfl rfl ?_
          refine TL.passG rfl rfl rfl rfl ?_
          refine TL.passG rfl rfl rfl rfl ?_
          refine TL.passG rfl rfl rfl rfl ?_
          refine TL.passG rfl rfl rfl rfl ?_
          refine TL.passG rfl rfl rfl rfl ?_
          refine TL.run1 (pure_pick_true rfl rfl) rfl ?_
          refine TL.run1 (pure_move rfl) rfl ?_
          refine TL.passG rfl rfl rfl rfl ?_
          refine TL.passG rfl rfl rfl rfl ?_
          refine TL.passG rfl rfl rfl rfl ?_
          refine TL.passG rfl rfl rfl rfl ?_
          refine TL.passG rfl rfl rfl rfl ?_
          refine TL.passG rfl rfl rfl rfl ?_
          refine TL.passG rfl rfl rfl rfl ?_
          refine TL.run1 (pure_pick_true rfl rfl) rfl ?_
          refine TL.cutEnd (by repeat (first | exact Same.refl _ _ | refine Same.put rfl ?_)) rfl ?_
          first | (simp_all; done) | grind
        · try dsimp only at hg28
          first | refine TL.runG rfl rfl (pure_fieldAddr Ty.f31_1 rfl (.succ (.zero _)) (List.cons_ne_nil _ _)) rfl ?_ | refine TL.runG rfl rfl (pure_fieldAddr_own Ty.f31_1 rfl) rfl ?_
          first | refine TL.runG rfl rfl (pure_load1 Ty.one3 rfl) rfl ?_ | refine TL.runG rfl rfl (pure_load1_own Ty.one3 rfl (by repeat (first | exact List.Mem.head _ | apply List.Mem.tail)) (by repeat (first | exact DropR.zero _ | apply DropR.succ))) rfl ?_
          first | refine TL.runG rfl rfl (pure_fieldAddr Ty.f31_1 rfl (.succ (.zero _)) (List.cons_ne_nil _ _)) rfl ?_ | refine TL.runG rfl rfl (pure_fieldAddr_own Ty.f31_1 rfl) rfl ?_
          first | refine TL.runG rfl rfl (pure_load1 Ty.one3 rfl) rfl ?_ | refine TL.runG rfl rfl (pure_load1_own Ty.one3 rfl (by repeat (first | exact List.Mem.head _ | apply List.Mem.tail)) (by repeat (first | exact DropR.zero _ | apply DropR.succ))) rfl ?_
          refine TL.runG rfl rfl (pure_neq rfl rfl) rfl ?_
          refine TL.run1 (pure_pick_false rfl rfl) rfl ?_
          refine TL.run1 (pure_move rfl) rfl ?_
          first | refine TL.splitP 35 rfl (fun hg35 => ?_) (fun hg35 => ?_) | refine TL.split 35 rfl (fun hg35 => ?_) (fun hg35 => ?_)
          · try dsimp only at hg35
            refine TL.passG rfl rfl rfl rfl ?_
            refine TL.passG rfl rfl rfl rfl ?_
            refine TL.passG rfl rfl rfl rfl ?_
            refine TL.passG rfl rfl rfl rfl ?_
            refine TL.passG rfl rfl rfl rfl ?_
            refine TL.passG rfl rfl rfl rfl ?_
            refine TL.passG rfl rfl rfl rfl ?_
            refine TL.run1 (pure_pick_true rfl rfl) rfl ?_
            refine TL.run1 (pure_move rfl) rfl ?_
            refine TL.passG rfl rfl rfl rfl ?_
            refine TL.passG rfl rfl rfl rfl ?_
            refine TL.passG rfl rfl rfl rfl ?_
            refine TL.passG rfl rfl rfl rfl ?_
            refine TL.passG rfl rfl rfl rfl ?_
            refine TL.passG rfl rfl rfl rfl ?_
            refine TL.passG rfl rfl rfl rfl ?_
            refine TL.run1 (pure_pick_true rfl rfl) rfl ?_
            refine TL.cutEnd (by repeat (first | exact Same.refl _ _ | refine Same.put rfl ?_)) rfl ?_
            first | (simp_all; done) | grind
          · try dsimp only at hg35
            first | refine TL.runG rfl rfl (pure_fieldAddr Ty.f31_2 rfl (.succ (.succ (.zero _))) (List.cons_ne_nil _ _)) rfl ?_ | refine TL.runG rfl rfl (pure_fieldAddr_own Ty.f31_2 rfl) rfl ?_
            first | refine TL.runG rfl rfl (pure_load1 Ty.one28 rfl) rfl ?_ | refine TL.runG rfl rfl (pure_load1_own Ty.one28 rfl (by repeat (first | exact List.Mem.head _ | apply List.Mem.tail)) (by repeat (first | exact DropR.zero _ | apply DropR.succ))) rfl ?_
            first | refine TL.runG rfl rfl (pure_len Ty.sl28 rfl) rfl ?_ | refine TL.runG rfl rfl (pure_len_row Ty.sl28 rfl (by repeat (first | exact List.Mem.head _ | apply List.Mem.tail))) rfl ?_ | refine TL.runG rfl rfl (pure_len_nil Ty.sl28 rfl) rfl ?_
            first | refine TL.runG rfl rfl (pure_fieldAddr Ty.f31_2 rfl (.succ (.succ (.zero _))) (List.cons_ne_nil _ _)) rfl ?_ | refine TL.runG rfl rfl (pure_fieldAddr_own Ty.f31_2 rfl) rfl ?_
            first | refine TL.runG rfl rfl (pure_load1 Ty.one28 rfl) rfl ?_ | refine TL.runG rfl rfl (pure_load1_own Ty.one28 rfl (by repeat (first | exact List.Mem.head _ | apply List.Mem.tail)) (by repeat (first | exact DropR.zero _ | apply DropR.succ))) rfl ?_
            first | refine TL.runG rfl rfl (pure_len Ty.sl28 rfl) rfl ?_ | refine TL.runG rfl rfl (pure_len_row Ty.sl28 rfl (by repeat (first | exact List.Mem.head _ | apply List.Mem.tail))) rfl ?_ | refine TL.runG rfl rfl (pure_len_nil Ty.sl28 rfl) rfl ?_
            refine TL.runG rfl rfl (pure_neq rfl rfl) rfl ?_
            refine TL.run1 (pure_pick_false rfl rfl) rfl ?_
            refine TL.run1 (pure_move rfl) rfl ?_
            first | refine TL.splitP 44 rfl (fun hg44 => ?_) (fun hg44 => ?_) | refine TL.split 44 rfl (fun hg44 => ?_) (fun hg44 => ?_)
            · try dsimp only at hg44
              refine TL.passG rfl rfl rfl rfl ?_
              refine TL.passG rfl rfl rfl rfl ?_
              refine TL.passG rfl rfl rfl rfl ?_
              refine TL.passG rfl rfl rfl rfl ?_
              refine TL.passG rfl rfl rfl rfl ?_
              refine TL.passG rfl rfl rfl rfl ?_
              refine TL.passG rfl rfl rfl rfl ?_
              refine TL.run1 (pure_pick_true rfl rfl) rfl ?_
              refine TL.cutEnd (by repeat (first | exact Same.refl _ _ | refine Same.put rfl ?_)) rfl ?_
              first | (simp_all; done) | grind
            · try dsimp only at hg44
              first | refine TL.runG rfl rfl (pure_fieldAddr Ty.f31_3 rfl (.succ (.succ (.succ (.zero _)))) (List.cons_ne_nil _ _)) rfl ?_ | refine TL.runG rfl rfl (pure_fieldAddr_own Ty.f31_3 rfl) rfl ?_
              first | refine TL.runG rfl rfl (pure_load1 Ty.one29 rfl) rfl ?_ | refine TL.runG rfl rfl (pure_load1_own Ty.one29 rfl (by repeat (first | exact List.Mem.head _ | apply List.Mem.tail)) (by repeat (first | exact DropR.zero _ | apply DropR.succ))) rfl ?_
              first | refine TL.runG rfl rfl (pure_len Ty.sl29 rfl) rfl ?_ | refine TL.runG rfl rfl (pure_len_row Ty.sl29 rfl (by repeat (first | exact List.Mem.head _ | apply List.Mem.tail))) rfl ?_ | refine TL.runG rfl rfl (pure_len_nil Ty.sl29 rfl) rfl ?_
              first | refine TL.runG rfl rfl (pure_fieldAddr Ty.f31_3 rfl (.succ (.succ (.succ (.zero _)))) (List.cons_ne_nil _ _)) rfl ?_ | refine TL.runG rfl rfl (pure_fieldAddr_own Ty.f31_3 rfl) rfl ?_
              first | refine TL.runG rfl rfl (pure_load1 Ty.one29 rfl) rfl ?_ | refine TL.runG rfl rfl (pure_load1_own Ty.one29 rfl (by repeat (first | exact List.Mem.head _ | apply List.Mem.tail)) (by repeat (first | exact DropR.zero _ | apply DropR.succ))) rfl ?_
              first | refine TL.runG rfl rfl (pure_len Ty.sl29 rfl) rfl ?_ | refine TL.runG rfl rfl (pure_len_row Ty.sl29 rfl (by repeat (first | exact List.Mem.head _ | apply List.Mem.tail))) rfl ?_ | refine TL.runG rfl rfl (pure_len_nil Ty.sl29 rfl) rfl ?_
              refine TL.runG rfl rfl (pure_neq rfl rfl) rfl ?_
              refine TL.run1 (pure_pick_false rfl rfl) rfl ?_
              refine TL.cutEnd (by repeat (first | exact Same.refl _ _ | refine Same.put rfl ?_)) rfl ?_
              first | (simp_all; done) | grind
    first | refine TC.condD rfl (fun hc52 => ?_) (fun hc52 => ?_) | refine TC.condN rfl (fun hc52 => ?_) (fun hc52 => ?_) | refine TC.cond rfl (fun hc52 => ?_) (fun hc52 => ?_)
    · try dsimp only at hc52
      all_goals exact absurd hc52 id
    · try dsimp only at hc52
      refine TC.skip' ?_
      refine TC.seq ?_
      refine TC.seq ?_
      refine TC.region ?_
      refine TL.run1 (pure_assign rfl) rfl ?_
      refine TL.nil' ?_
      refine TC.block ?_
      refine TC.loopX (X := Int) (fun i => [(2, .at_ [.sl 2 (encP ps), .v (.int .i64 a), .v (.int .i64 b), .sl 2 (encP dl), .sl 4 (encY ly)]), (3, .at_ [.sl 2 (encP ps), .v (.int .i64 a), .v (.int .i64 b), .sl 2 (encP dl), .sl 4 (encY ly)]), (5, .at_ [.v (.int .i64 a), .v (.int .i64 b), .sl 2 (encP dl), .sl 4 (encY ly)]), (6, .at_ [.v (.int .i64 a), .v (.int .i64 b), .sl 2 (encP dl), .sl 4 (encY ly)]), (7, .v (.int .i64 i))]) (fun i => []) (fun i => (0 ≤ i) ∧ (i ≤ ps.length)) (fun i => (ps.length - i).toNat) (0) ⟨by skip; repeat (first | exact Agree.nil | refine Agree.cons rfl ?_), by skip; repeat (first | exact List.nil_sublist _ | exact List.Sublist.refl _ | apply List.Sublist.cons_cons | apply List.Sublist.cons)⟩ ?_ ?_
      · skip
        exact ⟨Int.le_refl _, by omega⟩
      intro i
      rintro ⟨h0, h1⟩
      show TC _ _ _ (Env.of [(2, .at_ [.sl 2 (encP ps), .v (.int .i64 a), .v (.int .i64 b), .sl 2 (encP dl), .sl 4 (encY ly)]), (3, .at_ [.sl 2 (encP ps), .v (.int .i64 a), .v (.int .i64 b), .sl 2 (encP dl), .sl 4 (encY ly)]), (5, .at_ [.v (.int .i64 a), .v (.int .i64 b), .sl 2 (encP dl), .sl 4 (encY ly)]), (6, .at_ [.v (.int .i64 a), .v (.int .i64 b), .sl 2 (encP dl), .sl 4 (encY ly)]), (7, .v (.int .i64 i))]) []
      refine TC.seq ?_
      refine TC.seq ?_
      refine TC.region ?_
      refine TL.run1 (pure_move rfl) rfl ?_
      first | refine TL.run1 (pure_fieldAddr Ty.f33_0 rfl (.zero _) (List.cons_ne_nil _ _)) rfl ?_ | refine TL.run1 (pure_fieldAddr_own Ty.f33_0 rfl) rfl ?_
      first | refine TL.run1 (pure_load1 Ty.one27 rfl) rfl ?_ | refine TL.run1 (pure_load1_own Ty.one27 rfl (by repeat (first | exact List.Mem.head _ | apply List.Mem.tail)) (by repeat (first | exact DropR.zero _ | apply DropR.succ))) rfl ?_
      first | refine TL.run1 (pure_len Ty.sl27 rfl) rfl ?_ | refine TL.run1 (pure_len_row Ty.sl27 rfl (by repeat (first | exact List.Mem.head _ | apply List.Mem.tail))) rfl ?_ | refine TL.run1 (pure_len_nil Ty.sl27 rfl) rfl ?_
      refine TL.run1 (pure_lss rfl rfl) rfl ?_
      refine TL.nil' ?_
      first | refine TC.condD rfl (fun hc57 => ?_) (fun hc57 => ?_) | refine TC.condN rfl (fun hc57 => ?_) (fun hc57 => ?_) | refine TC.cond rfl (fun hc57 => ?_) (fun hc57 => ?_)
      · try dsimp only at hc57
        refine TC.skip' ?_
        refine TC.seq ?_
        refine TC.block ?_
        refine TC.seq ?_
        have hx := encP_get ps i h0 (by omega)
        refine TC.draw Ty.follows (by kernel_rfl) ?_
        first | refine TD.run1 (pure_fieldAddr Ty.f33_0 rfl (.zero _) (List.cons_ne_nil _ _)) rfl ?_ | refine TD.run1 (pure_fieldAddr_own Ty.f33_0 rfl) rfl ?_
        first | refine TD.run1 (pure_load1 Ty.one27 rfl) rfl ?_ | refine TD.run1 (pure_load1_own Ty.one27 rfl (by repeat (first | exact List.Mem.head _ | apply List.Mem.tail)) (by repeat (first | exact DropR.zero _ | apply DropR.succ))) rfl ?_
        refine TD.run1 (pure_move rfl) rfl ?_
        refine TD.run1 (pure_indexAddr Ty.sl27 rfl rfl (by omega) hx (List.cons_ne_nil _ _)) rfl ?_
        first | refine TD.run1 (pure_load Ty.agg77 rfl (.succ (.succ (.zero _)))) rfl ?_ | refine TD.run1 (pure_load_own Ty.agg77 rfl (by repeat (first | exact List.Mem.head _ | apply List.Mem.tail)) (by repeat (first | exact DropR.zero _ | apply DropR.succ)) (.succ (.succ (.zero _)))) rfl ?_
        first | refine TD.run1 (pure_fieldAddr Ty.f33_0 rfl (.zero _) (List.cons_ne_nil _ _)) rfl ?_ | refine TD.run1 (pure_fieldAddr_own Ty.f33_0 rfl) rfl ?_
        first | refine TD.run1 (pure_load1 Ty.one27 rfl) rfl ?_ | refine TD.run1 (pure_load1_own Ty.one27 rfl (by repeat (first | exact List.Mem.head _ | apply List.Mem.tail)) (by repeat (first | exact DropR.zero _ | apply DropR.succ))) rfl ?_
        refine TD.run1 (pure_move rfl) rfl ?_
        refine TD.run1 (pure_indexAddr Ty.sl27 rfl rfl (by omega) hx (List.cons_ne_nil _ _)) rfl ?_
        first | refine TD.run1 (pure_load Ty.agg77 rfl (.succ (.succ (.zero _)))) rfl ?_ | refine TD.run1 (pure_load_own Ty.agg77 rfl (by repeat (first | exact List.Mem.head _ | apply List.Mem.tail)) (by repeat (first | exact DropR.zero _ | apply DropR.succ)) (.succ (.succ (.zero _)))) rfl ?_
        refine TD.run1 (pure_neq_agg Ty.eq77 rfl rfl (.cons (.cons .nil)) (.cons (.cons .nil)) rfl rfl) rfl ?_
        refine TD.nil' ?_
        first | refine TC.condD rfl (fun hc70 => ?_) (fun hc70 => ?_) | refine TC.condN rfl (fun hc70 => ?_) (fun hc70 => ?_) | refine TC.cond rfl (fun hc70 => ?_) (fun hc70 => ?_)
        · try dsimp only at hc70
          exact absurd rfl hc70
        · try dsimp only at hc70
          refine TC.skip ?_
          refine block_normal ?_
          refine then_normal ?_
          refine TC.region ?_
          refine TL.run1 (pure_move rfl) rfl ?_
          refine TL.run1 (pure_add rfl rfl (mkI64 (by omega) (by omega))) rfl ?_
          refine TL.run1 (pure_assign rfl) rfl ?_
          refine TL.nil ?_
          refine loop_next (i + 1) ⟨by repeat (first | exact Agree.nil | refine Agree.cons rfl ?_), by repeat (first | exact List.nil_sublist _ | exact List.Sublist.refl _ | apply List.Sublist.cons_cons | apply List.Sublist.cons)⟩ ⟨by omega, by omega⟩ (by omega)
      · try dsimp only at hc57
        refine TC.exit ?_
        refine then_exit ?_
        refine loop_exit ?_
        refine block_here ?_
        refine then_normal ?_
        refine TC.seq ?_
        refine TC.seq ?_
        refine TC.region ?_
        refine TL.run1 (pure_assign rfl) rfl ?_
        refine TL.nil' ?_
        refine TC.block ?_
        refine TC.loopX (X := Int) (fun i => [(2, .at_ [.sl 2 (encP ps), .v (.int .i64 a), .v (.int .i64 b), .sl 2 (encP dl), .sl 4 (encY ly)]), (3, .at_ [.sl 2 (encP ps), .v (.int .i64 a), .v (.int .i64 b), .sl 2 (encP dl), .sl 4 (encY ly)]), (5, .at_ [.v (.int .i64 a), .v (.int .i64 b), .sl 2 (encP dl), .sl 4 (encY ly)]), (6, .at_ [.v (.int .i64 a), .v (.int .i64 b), .sl 2 (encP dl), .sl 4 (encY ly)]), (8, .v (.int .i64 i))]) (fun i => []) (fun i => (0 ≤ i) ∧ (i ≤ dl.length)) (fun i => (dl.length - i).toNat) (0) ⟨by skip; repeat (first | exact Agree.nil | refine Agree.cons rfl ?_), by skip; repeat (first | exact List.nil_sublist _ | exact List.Sublist.refl _ | apply List.Sublist.cons_cons | apply List.Sublist.cons)⟩ ?_ ?_
        · skip
          exact ⟨Int.le_refl _, by omega⟩
        intro i
        rintro ⟨h0, h1⟩
        show TC _ _ _ (Env.of [(2, .at_ [.sl 2 (encP ps), .v (.int .i64 a), .v (.int .i64 b), .sl 2 (encP dl), .sl 4 (encY ly)]), (3, .at_ [.sl 2 (encP ps), .v (.int .i64 a), .v (.int .i64 b), .sl 2 (encP dl), .sl 4 (encY ly)]), (5, .at_ [.v (.int .i64 a), .v (.int .i64 b), .sl 2 (encP dl), .sl 4 (encY ly)]), (6, .at_ [.v (.int .i64 a), .v (.int .i64 b), .sl 2 (encP dl), .sl 4 (encY ly)]), (8, .v (.int .i64 i))]) []
        refine TC.seq ?_
        refine TC.seq ?_
        refine TC.region ?_
        refine TL.run1 (pure_move rfl) rfl ?_
        first | refine TL.run1 (pure_fieldAddr Ty.f31_2 rfl (.succ (.succ (.zero _))) (List.cons_ne_nil _ _)) rfl ?_ | refine TL.run1 (pure_fieldAddr_own Ty.f31_2 rfl) rfl ?_
        first | refine TL.run1 (pure_load1 Ty.one28 rfl) rfl ?_ | refine TL.run1 (pure_load1_own Ty.one28 rfl (by repeat (first | exact List.Mem.head _ | apply List.Mem.tail)) (by repeat (first | exact DropR.zero _ | apply DropR.succ))) rfl ?_
        first | refine TL.run1 (pure_len Ty.sl28 rfl) rfl ?_ | refine TL.run1 (pure_len_row Ty.sl28 rfl (by repeat (first | exact List.Mem.head _ | apply List.Mem.tail))) rfl ?_ | refine TL.run1 (pure_len_nil Ty.sl28 rfl) rfl ?_
        refine TL.run1 (pure_lss rfl rfl) rfl ?_
        refine TL.nil' ?_
        first | refine TC.condD rfl (fun hc75 => ?_) (fun hc75 => ?_) | refine TC.condN rfl (fun hc75 => ?_) (fun hc75 => ?_) | refine TC.cond rfl (fun hc75 => ?_) (fun hc75 => ?_)
        · try dsimp only at hc75
          refine TC.skip' ?_
          refine TC.seq ?_
          refine TC.block ?_
          refine TC.seq ?_
          have hx := encP_get dl i h0 (by omega)
          refine TC.draw Ty.follows (by kernel_rfl) ?_
          first | refine TD.run1 (pure_fieldAddr Ty.f31_2 rfl (.succ (.succ (.zero _))) (List.cons_ne_nil _ _)) rfl ?_ | refine TD.run1 (pure_fieldAddr_own Ty.f31_2 rfl) rfl ?_
          first | refine TD.run1 (pure_load1 Ty.one28 rfl) rfl ?_ | refine TD.run1 (pure_load1_own Ty.one28 rfl (by repeat (first | exact List.Mem.head _ | apply List.Mem.tail)) (by repeat (first | exact DropR.zero _ | apply DropR.succ))) rfl ?_
          refine TD.run1 (pure_move rfl) rfl ?_
          refine TD.run1 (pure_indexAddr Ty.sl28 rfl rfl (by omega) hx (List.cons_ne_nil _ _)) rfl ?_
          first | refine TD.run1 (pure_load Ty.agg111 rfl (.succ (.succ (.zero _)))) rfl ?_ | refine TD.run1 (pure_load_own Ty.agg111 rfl (by repeat (first | exact List.Mem.head _ | apply List.Mem.tail)) (by repeat (first | exact DropR.zero _ | apply DropR.succ)) (.succ (.succ (.zero _)))) rfl ?_
          first | refine TD.run1 (pure_fieldAddr Ty.f31_2 rfl (.succ (.succ (.zero _))) (List.cons_ne_nil _ _)) rfl ?_ | refine TD.run1 (pure_fieldAddr_own Ty.f31_2 rfl) rfl ?_
          first | refine TD.run1 (pure_load1 Ty.one28 rfl) rfl ?_ | refine TD.run1 (pure_load1_own Ty.one28 rfl (by repeat (first | exact List.Mem.head _ | apply List.Mem.tail)) (by repeat (first | exact DropR.zero _ | apply DropR.succ))) rfl ?_
          refine TD.run1 (pure_move rfl) rfl ?_
          refine TD.run1 (pure_indexAddr Ty.sl28 rfl rfl (by omega) hx (List.cons_ne_nil _ _)) rfl ?_
          first | refine TD.run1 (pure_load Ty.agg111 rfl (.succ (.succ (.zero _)))) rfl ?_ | refine TD.run1 (pure_load_own Ty.agg111 rfl (by repeat (first | exact List.Mem.head _ | apply List.Mem.tail)) (by repeat (first | exact DropR.zero _ | apply DropR.succ)) (.succ (.succ (.zero _)))) rfl ?_
          refine TD.run1 (pure_neq_agg Ty.eq111 rfl rfl (.cons (.cons .nil)) (.cons (.cons .nil)) rfl rfl) rfl ?_
          refine TD.nil' ?_
          first | refine TC.condD rfl (fun hc88 => ?_) (fun hc88 => ?_) | refine TC.condN rfl (fun hc88 => ?_) (fun hc88 => ?_) | refine TC.cond rfl (fun hc88 => ?_) (fun hc88 => ?_)
          · try dsimp only at hc88
            exact absurd rfl hc88
          · try dsimp only at hc88
            refine TC.skip ?_
            refine block_normal ?_
            refine then_normal ?_
            refine TC.region ?_
            refine TL.run1 (pure_move rfl) rfl ?_
            refine TL.run1 (pure_add rfl rfl (mkI64 (by omega) (by omega))) rfl ?_
            refine TL.run1 (pure_assign rfl) rfl ?_
            refine TL.nil ?_
            refine loop_next (i + 1) ⟨by repeat (first | exact Agree.nil | refine Agree.cons rfl ?_), by repeat (first | exact List.nil_sublist _ | exact List.Sublist.refl _ | apply List.Sublist.cons_cons | apply List.Sublist.cons)⟩ ⟨by omega, by omega⟩ (by omega)
        · try dsimp only at hc75
          refine TC.exit ?_
          refine then_exit ?_
          refine loop_exit ?_
          refine block_here ?_
          refine then_normal ?_
          refine TC.seq ?_
          refine TC.seq ?_
          refine TC.region ?_
          refine TL.run1 (pure_assign rfl) rfl ?_
          refine TL.nil' ?_
          refine TC.block ?_
          refine TC.loopX (X := Int) (fun i => [(2, .at_ [.sl 2 (encP ps), .v (.int .i64 a), .v (.int .i64 b), .sl 2 (encP dl), .sl 4 (encY ly)]), (3, .at_ [.sl 2 (encP ps), .v (.int .i64 a), .v (.int .i64 b), .sl 2 (encP dl), .sl 4 (encY ly)]), (5, .at_ [.v (.int .i64 a), .v (.int .i64 b), .sl 2 (encP dl), .sl 4 (encY ly)]), (6, .at_ [.v (.int .i64 a), .v (.int .i64 b), .sl 2 (encP dl), .sl 4 (encY ly)]), (9, .v (.int .i64 i))]) (fun i => []) (fun i => (0 ≤ i) ∧ (i ≤ ly.length)) (fun i => (ly.length - i).toNat) (0) ⟨by skip; repeat (first | exact Agree.nil | refine Agree.cons rfl ?_), by skip; repeat (first | exact List.nil_sublist _ | exact List.Sublist.refl _ | apply List.Sublist.cons_cons | apply List.Sublist.cons)⟩ ?_ ?_
          · skip
            exact ⟨Int.le_refl _, by omega⟩
          intro i
          rintro ⟨h0, h1⟩
          show TC _ _ _ (Env.of [(2, .at_ [.sl 2 (encP ps), .v (.int .i64 a), .v (.int .i64 b), .sl 2 (encP dl), .sl 4 (encY ly)]), (3, .at_ [.sl 2 (encP ps), .v (.int .i64 a), .v (.int .i64 b), .sl 2 (encP dl), .sl 4 (encY ly)]), (5, .at_ [.v (.int .i64 a), .v (.int .i64 b), .sl 2 (encP dl), .sl 4 (encY ly)]), (6, .at_ [.v (.int .i64 a), .v (.int .i64 b), .sl 2 (encP dl), .sl 4 (encY ly)]), (9, .v (.int .i64 i))]) []
          refine TC.seq ?_
          refine TC.seq ?_
          refine TC.region ?_
          refine TL.run1 (pure_move rfl) rfl ?_
          first | refine TL.run1 (pure_fieldAddr Ty.f31_3 rfl (.succ (.succ (.succ (.zero _)))) (List.cons_ne_nil _ _)) rfl ?_ | refine TL.run1 (pure_fieldAddr_own Ty.f31_3 rfl) rfl ?_
          first | refine TL.run1 (pure_load1 Ty.one29 rfl) rfl ?_ | refine TL.run1 (pure_load1_own Ty.one29 rfl (by repeat (first | exact List.Mem.head _ | apply List.Mem.tail)) (by repeat (first | exact DropR.zero _ | apply DropR.succ))) rfl ?_
          first | refine TL.run1 (pure_len Ty.sl29 rfl) rfl ?_ | refine TL.run1 (pure_len_row Ty.sl29 rfl (by repeat (first | exact List.Mem.head _ | apply List.Mem.tail))) rfl ?_ | refine TL.run1 (pure_len_nil Ty.sl29 rfl) rfl ?_
          refine TL.run1 (pure_lss rfl rfl) rfl ?_
          refine TL.nil' ?_
          first | refine TC.condD rfl (fun hc93 => ?_) (fun hc93 => ?_) | refine TC.condN rfl (fun hc93 => ?_) (fun hc93 => ?_) | refine TC.cond rfl (fun hc93 => ?_) (fun hc93 => ?_)
          · try dsimp only at hc93
            refine TC.skip' ?_
            refine TC.seq ?_
            refine TC.block ?_
            refine TC.seq ?_
            have hx := encY_get ly i h0 (by omega)
            refine TC.draw Ty.follows (by kernel_rfl) ?_
            first | refine TD.run1 (pure_fieldAddr Ty.f31_3 rfl (.succ (.succ (.succ (.zero _)))) (List.cons_ne_nil _ _)) rfl ?_ | refine TD.run1 (pure_fieldAddr_own Ty.f31_3 rfl) rfl ?_
            first | refine TD.run1 (pure_load1 Ty.one29 rfl) rfl ?_ | refine TD.run1 (pure_load1_own Ty.one29 rfl (by repeat (first | exact List.Mem.head _ | apply List.Mem.tail)) (by repeat (first | exact DropR.zero _ | apply DropR.succ))) rfl ?_
            refine TD.run1 (pure_move rfl) rfl ?_
            refine TD.run1 (pure_indexAddr Ty.sl29 rfl rfl (by omega) hx (List.cons_ne_nil _ _)) rfl ?_
            first | refine TD.run1 (pure_load Ty.agg113 rfl (.succ (.succ (.succ (.succ (.zero _)))))) rfl ?_ | refine TD.run1 (pure_load_own Ty.agg113 rfl (by repeat (first | exact List.Mem.head _ | apply List.Mem.tail)) (by repeat (first | exact DropR.zero _ | apply DropR.succ)) (.succ (.succ (.succ (.succ (.zero _)))))) rfl ?_
            first | refine TD.run1 (pure_fieldAddr Ty.f31_3 rfl (.succ (.succ (.succ (.zero _)))) (List.cons_ne_nil _ _)) rfl ?_ | refine TD.run1 (pure_fieldAddr_own Ty.f31_3 rfl) rfl ?_
            first | refine TD.run1 (pure_load1 Ty.one29 rfl) rfl ?_ | refine TD.run1 (pure_load1_own Ty.one29 rfl (by repeat (first | exact List.Mem.head _ | apply List.Mem.tail)) (by repeat (first | exact DropR.zero _ | apply DropR.succ))) rfl ?_
            refine TD.run1 (pure_move rfl) rfl ?_
            refine TD.run1 (pure_indexAddr Ty.sl29 rfl rfl (by omega) hx (List.cons_ne_nil _ _)) rfl ?_
            first | refine TD.run1 (pure_load Ty.agg113 rfl (.succ (.succ (.succ (.succ (.zero _)))))) rfl ?_ | refine TD.run1 (pure_load_own Ty.agg113 rfl (by repeat (first | exact List.Mem.head _ | apply List.Mem.tail)) (by repeat (first | exact DropR.zero _ | apply DropR.succ)) (.succ (.succ (.succ (.succ (.zero _)))))) rfl ?_
            refine TD.run1 (pure_neq_mv Ty.eqm113 rfl rfl (.i (.i (.i (.b .nil)))) (.i (.i (.i (.b .nil)))) rfl rfl) rfl ?_
            refine TD.nil' ?_
            first | refine TC.condD rfl (fun hc106 => ?_) (fun hc106 => ?_) | refine TC.condN rfl (fun hc106 => ?_) (fun hc106 => ?_) | refine TC.cond rfl (fun hc106 => ?_) (fun hc106 => ?_)
            · try dsimp only at hc106
              exact absurd rfl hc106
            · try dsimp only at hc106
              refine TC.skip ?_
              refine block_normal ?_
              refine then_normal ?_
              refine TC.region ?_
              refine TL.run1 (pure_move rfl) rfl ?_
              refine TL.run1 (pure_add rfl rfl (mkI64 (by omega) (by omega))) rfl ?_
              refine TL.run1 (pure_assign rfl) rfl ?_
              refine TL.nil ?_
              refine loop_next (i + 1) ⟨by repeat (first | exact Agree.nil | refine Agree.cons rfl ?_), by repeat (first | exact List.nil_sublist _ | exact List.Sublist.refl _ | apply List.Sublist.cons_cons | apply List.Sublist.cons)⟩ ⟨by omega, by omega⟩ (by omega)
          · try dsimp only at hc93
            refine TC.exit ?_
            refine then_exit ?_
            refine loop_exit ?_
            refine block_here ?_
            refine then_normal ?_
            refine TC.seq ?_
            refine TC.region ?_
            refine TL.run1 (pure_assign rfl) rfl ?_
            refine TL.nil' ?_
            refine TC.ret ?_
            exact ret_bool rfl rfl
theorem Rsame_spec (ds : List D) (h : HeadT ds) : Fun Try.prog 50 [.agg ds, .agg ds] (.v (.bool true)) := by
  obtain ⟨ps, a, b, dl, ly, rfl, h1, h2, h3⟩ := h
  exact Rsame0_spec ps a b dl ly h1 h2 h3
set_option maxHeartbeats 1000000 in
set_option maxRecDepth 100000 in
theorem Rflow_spec (fl : List (List D)) (h : FlowT fl) : Fun Try.prog 51 [.sl 11 fl, .sl 11 fl] (.v (.bool true)) := by
  refine Fun.enter (n := 54) (rs := [.tmp 4]) Try.func51 rfl Try.ntmps51 Try.results51 rfl (fun w F => ?_)
  have hl := h.1
  refine TC.seq ?_
  refine TC.region ?_
  refine TL.run1 (pure_assign rfl) rfl ?_
  refine TL.nil' ?_
  refine TC.seq ?_
  refine TC.seq ?_
  refine TC.region ?_
  refine TL.run1 (pure_move rfl) rfl ?_
  first | refine TL.run1 (pure_len Ty.sl72 rfl) rfl ?_ | refine TL.run1 (pure_len_row Ty.sl72 rfl (by repeat (first | exact List.Mem.head _ | apply List.Mem.tail))) rfl ?_ | refine TL.run1 (pure_len_nil Ty.sl72 rfl) rfl ?_
  refine TL.run1 (pure_move rfl) rfl ?_
  first | refine TL.run1 (pure_len Ty.sl72 rfl) rfl ?_ | refine TL.run1 (pure_len_row Ty.sl72 rfl (by repeat (first | exact List.Mem.head _ | apply List.Mem.tail))) rfl ?_ | refine TL.run1 (pure_len_nil Ty.sl72 rfl) rfl ?_
  refine TL.run1 (pure_neq rfl rfl) rfl ?_
  refine TL.nil' ?_
  first | refine TC.condD rfl (fun hc10 => ?_) (fun hc10 => ?_) | refine TC.condN rfl (fun hc10 => ?_) (fun hc10 => ?_) | refine TC.cond rfl (fun hc10 => ?_) (fun hc10 => ?_)
  · try dsimp only at hc10
    exact absurd rfl hc10
  · try dsimp only at hc10
    refine TC.skip' ?_
    refine TC.seq ?_
    refine TC.seq ?_
    refine TC.region ?_
    refine TL.run1 (pure_assign rfl) rfl ?_
    refine TL.nil' ?_
    refine TC.block ?_
    refine TC.loopX (X := Int) (fun i => [(0, .sl 11 fl), (1, .sl 11 fl), (5, .v (.int .i64 i))]) (fun i => []) (fun i => (0 ≤ i) ∧ (i ≤ fl.length)) (fun i => (fl.length - i).toNat) (0) ⟨by skip; repeat (first | exact Agree.nil | refine Agree.cons rfl ?_), by skip; repeat (first | exact List.nil_sublist _ | exact List.Sublist.refl _ | apply List.Sublist.cons_cons | apply List.Sublist.cons)⟩ ?_ ?_
    · skip
      exact ⟨Int.le_refl _, by omega⟩
    intro i
    rintro ⟨h0, h1⟩
    show TC _ _ _ (Env.of [(0, .sl 11 fl), (1, .sl 11 fl), (5, .v (.int .i64 i))]) []
    refine TC.seq ?_
    refine TC.seq ?_
    refine TC.region ?_
    refine TL.run1 (pure_move rfl) rfl ?_
    refine TL.run1 (pure_move rfl) rfl ?_
    first | refine TL.run1 (pure_len Ty.sl72 rfl) rfl ?_ | refine TL.run1 (pure_len_row Ty.sl72 rfl (by repeat (first | exact List.Mem.head _ | apply List.Mem.tail))) rfl ?_ | refine TL.run1 (pure_len_nil Ty.sl72 rfl) rfl ?_
    refine TL.run1 (pure_lss rfl rfl) rfl ?_
    refine TL.nil' ?_
    first | refine TC.condD rfl (fun hc14 => ?_) (fun hc14 => ?_) | refine TC.condN rfl (fun hc14 => ?_) (fun hc14 => ?_) | refine TC.cond rfl (fun hc14 => ?_) (fun hc14 => ?_)
    · try dsimp only at hc14
      refine TC.skip' ?_
      refine TC.seq ?_
      refine TC.block ?_
      obtain ⟨a, b, c, s, tl, hx⟩ := h.get i h0 (by omega)
      refine TC.drawCut [17, 18, 19, 20, 21, 22, 23, 24, 25, 26, 27, 28, 29, 30, 31, 32, 33, 34, 35, 36, 37, 38, 39, 40, 41, 42, 43, 44, 45, 46, 47, 48, 49, 50, 51, 52, 53] 53 (False) Ty.follows (by kernel_rfl) ?_ ?_
      · skip
        refine TD.run1 (pure_move rfl) rfl ?_
        refine TD.run1 (pure_move rfl) rfl ?_
        refine TD.run1 (pure_indexAddr Ty.sl72 rfl rfl (by omega) hx (List.cons_ne_nil _ _)) rfl ?_
        first | refine TD.run1 (pure_fieldAddr Ty.f115_0 rfl (.zero _) (List.cons_ne_nil _ _)) rfl ?_ | refine TD.run1 (pure_fieldAddr_own Ty.f115_0 rfl) rfl ?_
        first | refine TD.run1 (pure_load1 Ty.one3 rfl) rfl ?_ | refine TD.run1 (pure_load1_own Ty.one3 rfl (by repeat (first | exact List.Mem.head _ | apply List.Mem.tail)) (by repeat (first | exact DropR.zero _ | apply DropR.succ))) rfl ?_
        refine TD.run1 (pure_move rfl) rfl ?_
        refine TD.run1 (pure_move rfl) rfl ?_
        refine TD.run1 (pure_indexAddr Ty.sl72 rfl rfl (by omega) hx (List.cons_ne_nil _ _)) rfl ?_
        first | refine TD.run1 (pure_fieldAddr Ty.f115_0 rfl (.zero _) (List.cons_ne_nil _ _)) rfl ?_ | refine TD.run1 (pure_fieldAddr_own Ty.f115_0 rfl) rfl ?_
        first | refine TD.run1 (pure_load1 Ty.one3 rfl) rfl ?_ | refine TD.run1 (pure_load1_own Ty.one3 rfl (by repeat (first | exact List.Mem.head _ | apply List.Mem.tail)) (by repeat (first | exact DropR.zero _ | apply DropR.succ))) rfl ?_
        refine TD.run1 (pure_neq rfl rfl) rfl ?_
        refine TD.run1 (pure_move rfl) rfl ?_
        first | refine TD.splitP 28 rfl (fun hg28 => ?_) (fun hg28 => ?_) | refine TD.split 28 rfl (fun hg28 => ?_) (fun hg28 => ?_)
        · try dsimp only at hg28
          refine TD.passG rfl rfl rfl rfl ?_
          refine TD.passG rfl rfl rfl rfl ?_
          refine TD.passG rfl rfl rfl rfl ?_
          refine TD.passG rfl rfl rfl rfl ?_
          refine TD.passG rfl rfl rfl rfl ?_
          refine TD.passG rfl rfl rfl rfl ?_
          refine TD.passG rfl rfl rfl rfl ?_
          refine TD.passG rfl rfl rfl rfl ?_
          refine TD.passG rfl rfl rfl rfl ?_
          refine TD.passG rfl rfl rfl rfl ?_
          refine TD.passG rfl rfl rfl rfl ?_
          refine TD.run1 (pure_pick_true rfl rfl) rfl ?_
          refine TD.run1 (pure_move rfl) rfl ?_
          refine TD.passG rfl rfl rfl rfl ?_
          refine TD.passG rfl rfl rfl rfl ?_
          refine TD.passG rfl rfl rfl rfl ?_
          refine TD.passG rfl rfl rfl rfl ?_
          refine TD.passG rfl rfl rfl rfl ?_
          refine TD.passG rfl rfl rfl rfl ?_
          refine TD.passG rfl rfl rfl rfl ?_
          refine TD.passG rfl rfl rfl rfl ?_
          refine TD.passG rfl rfl rfl rfl ?_
          refine TD.passG rfl rfl rfl rfl ?_
          refine TD.passG rfl rfl rfl rfl ?_
          refine TD.run1 (pure_pick_true rfl rfl) rfl ?_
          refine TD.cutEnd (by repeat (first | exact Same.refl _ _ | refine Same.put rfl ?_)) rfl ?_
          first | (simp_all; done) | grind
        · try dsimp only at hg28
          refine TD.runG rfl rfl (pure_move rfl) rfl ?_
          refine TD.runG rfl rfl (pure_move rfl) rfl ?_
          refine TD.runG rfl rfl (pure_indexAddr Ty.sl72 rfl rfl (by omega) hx (List.cons_ne_nil _ _)) rfl ?_
          first | refine TD.runG rfl rfl (pure_fieldAddr Ty.f115_2 rfl (.succ (.succ (.zero _))) (List.cons_ne_nil _ _)) rfl ?_ | refine TD.runG rfl rfl (pure_fieldAddr_own Ty.f115_2 rfl) rfl ?_
          first | refine TD.runG rfl rfl (pure_load1 Ty.one3 rfl) rfl ?_ | refine TD.runG rfl rfl (pure_load1_own Ty.one3 rfl (by repeat (first | exact List.Mem.head _ | apply List.Mem.tail)) (by repeat (first | exact DropR.zero _ | apply DropR.succ))) rfl ?_
          refine TD.runG rfl rfl (pure_move rfl) rfl ?_
          refine TD.runG rfl rfl (pure_move rfl) rfl ?_
          refine TD.runG rfl rfl (pure_indexAddr Ty.sl72 rfl rfl (by omega) hx (List.cons_ne_nil _ _)) rfl ?_
          first | refine TD.runG rfl rfl (pure_fieldAddr Ty.f115_2 rfl (.succ (.succ (.zero _))) (List.cons_ne_nil _ _)) rfl ?_ | refine TD.runG rfl rfl (pure_fieldAddr_own Ty.f115_2 rfl) rfl ?_
          first | refine TD.runG rfl rfl (pure_load1 Ty.one3 rfl) rfl ?_ | refine TD.runG rfl rfl (pure_load1_own Ty.one3 rfl (by repeat (first | exact List.Mem.head _ | apply List.Mem.tail)) (by repeat (first | exact DropR.zero _ | apply DropR.succ))) rfl ?_
          refine TD.runG rfl rfl (pure_neq rfl rfl) rfl ?_
          refine TD.run1 (pure_pick_false rfl rfl) rfl ?_
          refine TD.run1 (pure_move rfl) rfl ?_
          first | refine TD.splitP 41 rfl (fun hg41 => ?_) (fun hg41 => ?_) | refine TD.split 41 rfl (fun hg41 => ?_) (fun hg41 => ?_)
          · try dsimp only at hg41
            refine TD.passG rfl rfl rfl rfl ?_
            refine TD.passG rfl rfl rfl rfl ?_
            refine TD.passG rfl rfl rfl rfl ?_
            refine TD.passG rfl rfl rfl rfl ?_
            refine TD.passG rfl rfl rfl rfl ?_
            refine TD.passG rfl rfl rfl rfl ?_
            refine TD.passG rfl rfl rfl rfl ?_
            refine TD.passG rfl rfl rfl rfl ?_
            refine TD.passG rfl rfl rfl rfl ?_
            refine TD.passG rfl rfl rfl rfl ?_
            refine TD.passG rfl rfl rfl rfl ?_
            refine TD.run1 (pure_pick_true rfl rfl) rfl ?_
            refine TD.cutEnd (by repeat (first | exact Same.refl _ _ | refine Same.put rfl ?_)) rfl ?_
            first | (simp_all; done) | grind
          · try dsimp only at hg41
            refine TD.runG rfl rfl (pure_move rfl) rfl ?_
            refine TD.runG rfl rfl (pure_move rfl) rfl ?_
            refine TD.runG rfl rfl (pure_indexAddr Ty.sl72 rfl rfl (by omega) hx (List.cons_ne_nil _ _)) rfl ?_
            first | refine TD.runG rfl rfl (pure_fieldAddr Ty.f115_3 rfl (.succ (.succ (.succ (.zero _)))) (List.cons_ne_nil _ _)) rfl ?_ | refine TD.runG rfl rfl (pure_fieldAddr_own Ty.f115_3 rfl) rfl ?_
            first | refine TD.runG rfl rfl (pure_load1 Ty.one9 rfl) rfl ?_ | refine TD.runG rfl rfl (pure_load1_own Ty.one9 rfl (by repeat (first | exact List.Mem.head _ | apply List.Mem.tail)) (by repeat (first | exact DropR.zero _ | apply DropR.succ))) rfl ?_
            refine TD.runG rfl rfl (pure_move rfl) rfl ?_
            refine TD.runG rfl rfl (pure_move rfl) rfl ?_
            refine TD.runG rfl rfl (pure_indexAddr Ty.sl72 rfl rfl (by omega) hx (List.cons_ne_nil _ _)) rfl ?_
            first | refine TD.runG rfl rfl (pure_fieldAddr Ty.f115_3 rfl (.succ (.succ (.succ (.zero _)))) (List.cons_ne_nil _ _)) rfl ?_ | refine TD.runG rfl rfl (pure_fieldAddr_own Ty.f115_3 rfl) rfl ?_
            first | refine TD.runG rfl rfl (pure_load1 Ty.one9 rfl) rfl ?_ | refine TD.runG rfl rfl (pure_load1_own Ty.one9 rfl (by repeat (first | exact List.Mem.head _ | apply List.Mem.tail)) (by repeat (first | exact DropR.zero _ | apply DropR.succ))) rfl ?_
            refine TD.runG rfl rfl (pure_neq_string rfl rfl) rfl ?_
            refine TD.run1 (pure_pick_false rfl rfl) rfl ?_
            refine TD.cutEnd (by repeat (first | exact Same.refl _ _ | refine Same.put rfl ?_)) rfl ?_
            first | (simp_all; done) | grind
      first | refine TC.condD rfl (fun hc53 => ?_) (fun hc53 => ?_) | refine TC.condN rfl (fun hc53 => ?_) (fun hc53 => ?_) | refine TC.cond rfl (fun hc53 => ?_) (fun hc53 => ?_)
      · try dsimp only at hc53
        all_goals exact absurd hc53 id
      · try dsimp only at hc53
        refine TC.skip ?_
        refine block_normal ?_
        refine then_normal ?_
        refine TC.region ?_
        refine TL.run1 (pure_move rfl) rfl ?_
        refine TL.run1 (pure_add rfl rfl (mkI64 (by omega) (by omega))) rfl ?_
        refine TL.run1 (pure_assign rfl) rfl ?_
        refine TL.nil ?_
        refine loop_next (i + 1) ⟨by repeat (first | exact Agree.nil | refine Agree.cons rfl ?_), by repeat (first | exact List.nil_sublist _ | exact List.Sublist.refl _ | apply List.Sublist.cons_cons | apply List.Sublist.cons)⟩ ⟨by omega, by omega⟩ (by omega)
    · try dsimp only at hc14
      refine TC.exit ?_
      refine then_exit ?_
      refine loop_exit ?_
      refine block_here ?_
      refine then_normal ?_
      refine TC.seq ?_
      refine TC.region ?_
      refine TL.run1 (pure_assign rfl) rfl ?_
      refine TL.nil' ?_
      refine TC.ret ?_
      exact ret_bool rfl rfl
set_option maxHeartbeats 1000000 in
set_option maxRecDepth 100000 in
theorem REqual_spec (rs : List RowD) (hT : TabT rs) : Fun Try.prog 31 [.sl 6 (encRs rs), .sl 6 (encRs rs)] (.v (.bool true)) := by
  refine Fun.enter (n := 94) (rs := [.tmp 4]) Try.func31 rfl Try.ntmps31 Try.results31 rfl (fun w F => ?_)
  have hk := encRs_len rs
  have hrl := hT.1
  refine TC.seq ?_
  refine TC.region ?_
  refine TL.run1 (pure_assign rfl) rfl ?_
  refine TL.nil' ?_
  refine TC.seq ?_
  refine TC.seq ?_
  refine TC.region ?_
  refine TL.run1 (pure_move rfl) rfl ?_
  first | refine TL.run1 (pure_len Ty.sl22 rfl) rfl ?_ | refine TL.run1 (pure_len_row Ty.sl22 rfl (by repeat (first | exact List.Mem.head _ | apply List.Mem.tail))) rfl ?_ | refine TL.run1 (pure_len_nil Ty.sl22 rfl) rfl ?_
  refine TL.run1 (pure_move rfl) rfl ?_
  first | refine TL.run1 (pure_len Ty.sl22 rfl) rfl ?_ | refine TL.run1 (pure_len_row Ty.sl22 rfl (by repeat (first | exact List.Mem.head _ | apply List.Mem.tail))) rfl ?_ | refine TL.run1 (pure_len_nil Ty.sl22 rfl) rfl ?_
  refine TL.run1 (pure_neq rfl rfl) rfl ?_
  refine TL.nil' ?_
  first | refine TC.condD rfl (fun hc13 => ?_) (fun hc13 => ?_) | refine TC.condN rfl (fun hc13 => ?_) (fun hc13 => ?_) | refine TC.cond rfl (fun hc13 => ?_) (fun hc13 => ?_)
  · try dsimp only at hc13
    exact absurd rfl hc13
  · try dsimp only at hc13
    refine TC.skip' ?_
    refine TC.seq ?_
    refine TC.seq ?_
    refine TC.region ?_
    refine TL.run1 (pure_assign rfl) rfl ?_
    refine TL.nil' ?_
    refine TC.block ?_
    refine TC.loopX (X := Int) (fun i => [(0, .sl 6 (encRs rs)), (1, .sl 6 (encRs rs)), (5, .v (.int .i64 i))]) (fun i => []) (fun i => (0 ≤ i) ∧ (i ≤ rs.length)) (fun i => (rs.length - i).toNat) (0) ⟨by skip; repeat (first | exact Agree.nil | refine Agree.cons rfl ?_), by skip; repeat (first | exact List.nil_sublist _ | exact List.Sublist.refl _ | apply List.Sublist.cons_cons | apply List.Sublist.cons)⟩ ?_ ?_
    · skip
      exact ⟨Int.le_refl _, by omega⟩
    intro i
    rintro ⟨h0, h1⟩
    show TC _ _ _ (Env.of [(0, .sl 6 (encRs rs)), (1, .sl 6 (encRs rs)), (5, .v (.int .i64 i))]) []
    refine TC.seq ?_
    refine TC.seq ?_
    refine TC.region ?_
    refine TL.run1 (pure_move rfl) rfl ?_
    refine TL.run1 (pure_move rfl) rfl ?_
    first | refine TL.run1 (pure_len Ty.sl22 rfl) rfl ?_ | refine TL.run1 (pure_len_row Ty.sl22 rfl (by repeat (first | exact List.Mem.head _ | apply List.Mem.tail))) rfl ?_ | refine TL.run1 (pure_len_nil Ty.sl22 rfl) rfl ?_
    refine TL.run1 (pure_lss rfl rfl) rfl ?_
    refine TL.nil' ?_
    first | refine TC.condD rfl (fun hc17 => ?_) (fun hc17 => ?_) | refine TC.condN rfl (fun hc17 => ?_) (fun hc17 => ?_) | refine TC.cond rfl (fun hc17 => ?_) (fun hc17 => ?_)
    · try dsimp only at hc17
      refine TC.skip' ?_
      refine TC.seq ?_
      refine TC.block ?_
      refine TC.seq ?_
      have hrow := encRs_get rs i h0 (by omega)
      obtain ⟨hT1, hT2, hT3⟩ := hT.2 (rAt rs i) (rAt_mem rs i h0 (by omega))
      have hck := encCs_len (rAt rs i).cells
      refine TC.drawCut [20, 21, 22, 23, 24, 25, 26, 27, 28, 29, 30, 31, 32, 33, 34, 35, 36, 37, 38, 39, 40, 41, 42, 43, 44, 45, 46] 46 (False) Ty.follows (by kernel_rfl) ?_ ?_
      · skip
        refine TD.run1 (pure_move rfl) rfl ?_
        refine TD.run1 (pure_move rfl) rfl ?_
        refine TD.run1 (pure_indexAddr Ty.sl22 rfl rfl (by omega) hrow (by simp [encR])) rfl ?_
        first | refine TD.run1 (pure_fieldAddr Ty.f36_0 rfl (.zero _) (List.cons_ne_nil _ _)) rfl ?_ | refine TD.run1 (pure_fieldAddr_own Ty.f36_0 rfl) rfl ?_
        first | refine TD.run1 (pure_load Ty.agg33 rfl (.succ (.succ (.succ (.succ (.succ (.zero _))))))) rfl ?_ | refine TD.run1 (pure_load_own Ty.agg33 rfl (by repeat (first | exact List.Mem.head _ | apply List.Mem.tail)) (by repeat (first | exact DropR.zero _ | apply DropR.succ)) (.succ (.succ (.succ (.succ (.succ (.zero _))))))) rfl ?_
        refine TD.run1 (pure_move rfl) rfl ?_
        refine TD.run1 (pure_move rfl) rfl ?_
        refine TD.run1 (pure_indexAddr Ty.sl22 rfl rfl (by omega) hrow (by simp [encR])) rfl ?_
        first | refine TD.run1 (pure_fieldAddr Ty.f36_0 rfl (.zero _) (List.cons_ne_nil _ _)) rfl ?_ | refine TD.run1 (pure_fieldAddr_own Ty.f36_0 rfl) rfl ?_
        first | refine TD.run1 (pure_load Ty.agg33 rfl (.succ (.succ (.succ (.succ (.succ (.zero _))))))) rfl ?_ | refine TD.run1 (pure_load_own Ty.agg33 rfl (by repeat (first | exact List.Mem.head _ | apply List.Mem.tail)) (by repeat (first | exact DropR.zero _ | apply DropR.succ)) (.succ (.succ (.succ (.succ (.succ (.zero _))))))) rfl ?_
        first | refine TD.run1 (pure_call (Rsame_spec [(rAt rs i).hp, (rAt rs i).hi, (rAt rs i).hm, (rAt rs i).hd, (rAt rs i).hl] hT1) (.cons rfl (.cons rfl .nil)) Try.call50) rfl ?_ | refine TD.run1 (pure_call (Rsame_spec [.sl 2 (encP (cAt (rAt rs i).cells k).props), (cAt (rAt rs i).cells k).ins, (cAt (rAt rs i).cells k).move, (cAt (rAt rs i).cells k).dels, (cAt (rAt rs i).cells k).layers] hC2) (.cons rfl (.cons rfl .nil)) Try.call50) rfl ?_
        refine TD.run1 (pure_not rfl) rfl ?_
        refine TD.run1 (pure_move rfl) rfl ?_
        first | refine TD.splitP 32 rfl (fun hg32 => ?_) (fun hg32 => ?_) | refine TD.split 32 rfl (fun hg32 => ?_) (fun hg32 => ?_)
        · try dsimp only at hg32
          refine TD.passG rfl rfl rfl rfl ?_
          refine TD.passG rfl rfl rfl rfl ?_
          refine TD.passG rfl rfl rfl rfl ?_
          refine TD.passG rfl rfl rfl rfl ?_
          refine TD.passG rfl rfl rfl rfl ?_
          refine TD.passG rfl rfl rfl rfl ?_
          refine TD.passG rfl rfl rfl rfl ?_
          refine TD.passG rfl rfl rfl rfl ?_
          refine TD.passG rfl rfl rfl rfl ?_
          refine TD.passG rfl rfl rfl rfl ?_
          refine TD.passG rfl rfl rfl rfl ?_
          refine TD.passG rfl rfl rfl rfl ?_
          refine TD.passG rfl rfl rfl rfl ?_
          refine TD.run1 (pure_pick_true rfl rfl) rfl ?_
          refine TD.cutEnd (by repeat (first | exact Same.refl _ _ | refine Same.put rfl ?_)) rfl ?_
          first | (simp_all; done) | grind
        · try dsimp only at hg32
          refine TD.runG rfl rfl (pure_move rfl) rfl ?_
          refine TD.runG rfl rfl (pure_move rfl) rfl ?_
          refine TD.runG rfl rfl (pure_indexAddr Ty.sl22 rfl rfl (by omega) hrow (by simp [encR])) rfl ?_
          first | refine TD.runG rfl rfl (pure_fieldAddr Ty.f36_1 rfl (.succ (.succ (.succ (.succ (.succ (.zero _)))))) (List.cons_ne_nil _ _)) rfl ?_ | refine TD.runG rfl rfl (pure_fieldAddr_own Ty.f36_1 rfl) rfl ?_
          first | refine TD.runG rfl rfl (pure_load1 Ty.one34 rfl) rfl ?_ | refine TD.runG rfl rfl (pure_load1_own Ty.one34 rfl (by repeat (first | exact List.Mem.head _ | apply List.Mem.tail)) (by repeat (first | exact DropR.zero _ | apply DropR.succ))) rfl ?_
          first | refine TD.runG rfl rfl (pure_len Ty.sl34 rfl) rfl ?_ | refine TD.runG rfl rfl (pure_len_row Ty.sl34 rfl (by repeat (first | exact List.Mem.head _ | apply List.Mem.tail))) rfl ?_ | refine TD.runG rfl rfl (pure_len_nil Ty.sl34 rfl) rfl ?_
          refine TD.runG rfl rfl (pure_move rfl) rfl ?_
          refine TD.runG rfl rfl (pure_move rfl) rfl ?_
          refine TD.runG rfl rfl (pure_indexAddr Ty.sl22 rfl rfl (by omega) hrow (by simp [encR])) rfl ?_
          first | refine TD.runG rfl rfl (pure_fieldAddr Ty.f36_1 rfl (.succ (.succ (.succ (.succ (.succ (.zero _)))))) (List.cons_ne_nil _ _)) rfl ?_ | refine TD.runG rfl rfl (pure_fieldAddr_own Ty.f36_1 rfl) rfl ?_
          first | refine TD.runG rfl rfl (pure_load1 Ty.one34 rfl) rfl ?_ | refine TD.runG rfl rfl (pure_load1_own Ty.one34 rfl (by repeat (first | exact List.Mem.head _ | apply List.Mem.tail)) (by repeat (first | exact DropR.zero _ | apply DropR.succ))) rfl ?_
          first | refine TD.runG rfl rfl (pure_len Ty.sl34 rfl) rfl ?_ | refine TD.runG rfl rfl (pure_len_row Ty.sl34 rfl (by repeat (first | exact List.Mem.head _ | apply List.Mem.tail))) rfl ?_ | refine TD.runG rfl rfl (pure_len_nil Ty.sl34 rfl) rfl ?_
          refine TD.runG rfl rfl (pure_neq rfl rfl) rfl ?_
          refine TD.run1 (pure_pick_false rfl rfl) rfl ?_
          refine TD.cutEnd (by repeat (first | exact Same.refl _ _ | refine Same.put rfl ?_)) rfl ?_
          first | (simp_all; done) | grind
      first | refine TC.condD rfl (fun hc46 => ?_) (fun hc46 => ?_) | refine TC.condN rfl (fun hc46 => ?_) (fun hc46 => ?_) | refine TC.cond rfl (fun hc46 => ?_) (fun hc46 => ?_)
      · try dsimp only at hc46
        all_goals exact absurd hc46 id
      · try dsimp only at hc46
        refine TC.skip' ?_
        refine TC.seq ?_
        refine TC.region ?_
        refine TL.run1 (pure_assign rfl) rfl ?_
        refine TL.nil' ?_
        refine TC.block ?_
        refine TC.loopX (X := Int) (fun k => [(0, .sl 6 (encRs rs)), (1, .sl 6 (encRs rs)), (5, .v (.int .i64 i)), (6, .v (.int .i64 k))]) (fun k => []) (fun k => (0 ≤ k) ∧ (k ≤ (rAt rs i).cells.length)) (fun k => ((rAt rs i).cells.length - k).toNat) (0) ⟨by skip; repeat (first | exact Agree.nil | refine Agree.cons rfl ?_), by skip; repeat (first | exact List.nil_sublist _ | exact List.Sublist.refl _ | apply List.Sublist.cons_cons | apply List.Sublist.cons)⟩ ?_ ?_
        · skip
          exact ⟨Int.le_refl _, by omega⟩
        intro k
        rintro ⟨k0, k1⟩
        show TC _ _ _ (Env.of [(0, .sl 6 (encRs rs)), (1, .sl 6 (encRs rs)), (5, .v (.int .i64 i)), (6, .v (.int .i64 k))]) []
        refine TC.seq ?_
        refine TC.seq ?_
        refine TC.region ?_
        refine TL.run1 (pure_move rfl) rfl ?_
        refine TL.run1 (pure_move rfl) rfl ?_
        refine TL.run1 (pure_move rfl) rfl ?_
        refine TL.run1 (pure_indexAddr Ty.sl22 rfl rfl (by omega) hrow (by simp [encR])) rfl ?_
        first | refine TL.run1 (pure_fieldAddr Ty.f36_1 rfl (.succ (.succ (.succ (.succ (.succ (.zero _)))))) (List.cons_ne_nil _ _)) rfl ?_ | refine TL.run1 (pure_fieldAddr_own Ty.f36_1 rfl) rfl ?_
        first | refine TL.run1 (pure_load1 Ty.one34 rfl) rfl ?_ | refine TL.run1 (pure_load1_own Ty.one34 rfl (by repeat (first | exact List.Mem.head _ | apply List.Mem.tail)) (by repeat (first | exact DropR.zero _ | apply DropR.succ))) rfl ?_
        first | refine TL.run1 (pure_len Ty.sl34 rfl) rfl ?_ | refine TL.run1 (pure_len_row Ty.sl34 rfl (by repeat (first | exact List.Mem.head _ | apply List.Mem.tail))) rfl ?_ | refine TL.run1 (pure_len_nil Ty.sl34 rfl) rfl ?_
        refine TL.run1 (pure_lss rfl rfl) rfl ?_
        refine TL.nil' ?_
        first | refine TC.condD rfl (fun hc54 => ?_) (fun hc54 => ?_) | refine TC.condN rfl (fun hc54 => ?_) (fun hc54 => ?_) | refine TC.cond rfl (fun hc54 => ?_) (fun hc54 => ?_)
        · try dsimp only at hc54
          refine TC.skip' ?_
          refine TC.seq ?_
          refine TC.block ?_
          refine TC.seq ?_
          have hcell := encCs_get (rAt rs i).cells k k0 (by omega)
          obtain ⟨⟨id, hid⟩, hC2, hC3⟩ := hT3 (cAt (rAt rs i).cells k) (cAt_mem (rAt rs i).cells k k0 (by omega))
          have hce : encC (cAt (rAt rs i).cells k) = [.v (.int .i64 id), .sl 2 (encP (cAt (rAt rs i).cells k).props), (cAt (rAt rs i).cells k).ins, (cAt (rAt rs i).cells k).move, (cAt (rAt rs i).cells k).dels, (cAt (rAt rs i).cells k).layers, .sl 11 (cAt (rAt rs i).cells k).flow] := by (unfold encC; rw [hid])
          rw [hce] at hcell
          refine TC.thenCut (fun env H => ∃ g7 g8, At env H [(0, .sl 6 (encRs rs)), (1, .sl 6 (encRs rs)), (5, .v (.int .i64 i)), (6, .v (.int .i64 k)), (7, .v (.pointer (some ⟨g7, 0, none⟩))), (8, .v (.pointer (some ⟨g8, 0, none⟩)))] [Blk.box g7 74 (.v (.int .i64 id) :: .sl 2 (encP (cAt (rAt rs i).cells k).props) :: (cAt (rAt rs i).cells k).ins :: (cAt (rAt rs i).cells k).move :: (cAt (rAt rs i).cells k).dels :: (cAt (rAt rs i).cells k).layers :: [.sl 11 (cAt (rAt rs i).cells k).flow]), Blk.box g8 74 (.v (.int .i64 id) :: .sl 2 (encP (cAt (rAt rs i).cells k).props) :: (cAt (rAt rs i).cells k).ins :: (cAt (rAt rs i).cells k).move :: (cAt (rAt rs i).cells k).dels :: (cAt (rAt rs i).cells k).layers :: [.sl 11 (cAt (rAt rs i).cells k).flow])]) ?_ ?_
          · refine TC.drawSp 19 [16, 17, 18] [] Ty.follows (by decide) (by kernel_rfl) (by kernel_rfl) (by kernel_rfl) ?_
            refine TD.run1 (pure_move rfl) rfl ?_
            refine TD.run1 (pure_move rfl) rfl ?_
            refine TD.run1 (pure_indexAddr Ty.sl22 rfl rfl (by omega) hrow (by simp [encR])) rfl ?_
            first | refine TD.run1 (pure_fieldAddr Ty.f36_1 rfl (.succ (.succ (.succ (.succ (.succ (.zero _)))))) (List.cons_ne_nil _ _)) rfl ?_ | refine TD.run1 (pure_fieldAddr_own Ty.f36_1 rfl) rfl ?_
            first | refine TD.run1 (pure_load1 Ty.one34 rfl) rfl ?_ | refine TD.run1 (pure_load1_own Ty.one34 rfl (by repeat (first | exact List.Mem.head _ | apply List.Mem.tail)) (by repeat (first | exact DropR.zero _ | apply DropR.succ))) rfl ?_
            refine TD.run1 (pure_move rfl) rfl ?_
            refine TD.run1 (pure_indexAddr Ty.sl34 rfl rfl (by omega) hcell (List.cons_ne_nil _ _)) rfl ?_
            first | refine TD.run1 (pure_load Ty.agg74 rfl (.succ (.succ (.succ (.succ (.succ (.succ (.succ (.zero _))))))))) rfl ?_ | refine TD.run1 (pure_load_own Ty.agg74 rfl (by repeat (first | exact List.Mem.head _ | apply List.Mem.tail)) (by repeat (first | exact DropR.zero _ | apply DropR.succ)) (.succ (.succ (.succ (.succ (.succ (.succ (.succ (.zero _))))))))) rfl ?_
            refine TD.run1 (pure_move rfl) rfl ?_
            refine TD.run1 (pure_move rfl) rfl ?_
            refine TD.run1 (pure_indexAddr Ty.sl22 rfl rfl (by omega) hrow (by simp [encR])) rfl ?_
            first | refine TD.run1 (pure_fieldAddr Ty.f36_1 rfl (.succ (.succ (.succ (.succ (.succ (.zero _)))))) (List.cons_ne_nil _ _)) rfl ?_ | refine TD.run1 (pure_fieldAddr_own Ty.f36_1 rfl) rfl ?_
            first | refine TD.run1 (pure_load1 Ty.one34 rfl) rfl ?_ | refine TD.run1 (pure_load1_own Ty.one34 rfl (by repeat (first | exact List.Mem.head _ | apply List.Mem.tail)) (by repeat (first | exact DropR.zero _ | apply DropR.succ))) rfl ?_
            refine TD.run1 (pure_move rfl) rfl ?_
            refine TD.run1 (pure_indexAddr Ty.sl34 rfl rfl (by omega) hcell (List.cons_ne_nil _ _)) rfl ?_
            first | refine TD.run1 (pure_load Ty.agg74 rfl (.succ (.succ (.succ (.succ (.succ (.succ (.succ (.zero _))))))))) rfl ?_ | refine TD.run1 (pure_load_own Ty.agg74 rfl (by repeat (first | exact List.Mem.head _ | apply List.Mem.tail)) (by repeat (first | exact DropR.zero _ | apply DropR.succ)) (.succ (.succ (.succ (.succ (.succ (.succ (.succ (.zero _))))))))) rfl ?_
            refine TD.mute (TD.mute (TD.mute (TD.nil ?_)))
            refine ⟨⟨_, SplitR.none _⟩, fun s hs hb => ?_⟩
            simp only [List.mem_cons, List.not_mem_nil, or_false] at hs
            rcases hs with rfl | rfl | rfl
            · refine ⟨_, rfl, rfl, fun E eF he hx => ?_⟩
              subst he
              refine TL.alloc Ty.zero74 rfl (fun g7 => TL.nil ⟨rfl, _, rfl, ?_⟩)
              refine ⟨⟨_, SplitR.none _⟩, fun s hs hb => ?_⟩
              rw [show ([16, 17, 18] : List Nat).erase 16 = [17, 18] from rfl] at *
              simp only [List.mem_cons, List.not_mem_nil, or_false] at hs
              rcases hs with rfl | rfl
              · refine ⟨_, rfl, rfl, fun E eF he hx => ?_⟩
                subst he
                refine TL.alloc Ty.zero74 rfl (fun g8 => TL.nil ⟨rfl, _, rfl, ?_⟩)
                refine ⟨⟨_, SplitR.none _⟩, fun s hs hb => ?_⟩
                rw [show ([17, 18] : List Nat).erase 17 = [18] from rfl] at *
                simp only [List.mem_cons, List.not_mem_nil, or_false] at hs
                subst hs
                refine ⟨_, rfl, rfl, fun E eF he hx => ?_⟩
                subst he
                refine TL.store ((hx (.tmp 7) (by simp [Op.operands])).trans rfl) ((hx (.tmp 64) (by simp [Op.operands])).trans rfl) (.agg _) Try.sizeOf74 rfl (by repeat (first | exact UpdR.here _ | apply UpdR.there)) (by repeat (first | exact PutR.nil _ | apply PutR.here | apply PutR.skip)) (TL.nil ⟨rfl, none, rfl, ?_⟩)
                refine ⟨⟨_, SplitR.none _⟩, fun e he => ?_⟩
                subst he
                refine TL.store rfl rfl (.agg _) Try.sizeOf74 rfl (by repeat (first | exact UpdR.here _ | apply UpdR.there)) (by repeat (first | exact PutR.nil _ | apply PutR.here | apply PutR.skip)) ?_
                refine TL.perm (H' := [Blk.box g7 74 (.v (.int .i64 id) :: .sl 2 (encP (cAt (rAt rs i).cells k).props) :: (cAt (rAt rs i).cells k).ins :: (cAt (rAt rs i).cells k).move :: (cAt (rAt rs i).cells k).dels :: (cAt (rAt rs i).cells k).layers :: [.sl 11 (cAt (rAt rs i).cells k).flow]), Blk.box g8 74 (.v (.int .i64 id) :: .sl 2 (encP (cAt (rAt rs i).cells k).props) :: (cAt (rAt rs i).cells k).ins :: (cAt (rAt rs i).cells k).move :: (cAt (rAt rs i).cells k).dels :: (cAt (rAt rs i).cells k).layers :: [.sl 11 (cAt (rAt rs i).cells k).flow])]) (List.Perm.swap _ _ _) ?_
                exact TL.nil ⟨rfl, g7, g8, ⟨by repeat (first | exact Agree.nil | refine Agree.cons rfl ?_), by repeat (first | exact List.nil_sublist _ | exact List.Sublist.refl _ | apply List.Sublist.cons_cons | apply List.Sublist.cons)⟩⟩
              · exact absurd (hb 17 (by simp)) (by decide +kernel)
            · refine ⟨_, rfl, rfl, fun E eF he hx => ?_⟩
              subst he
              refine TL.alloc Ty.zero74 rfl (fun g8 => TL.nil ⟨rfl, _, rfl, ?_⟩)
              refine ⟨⟨_, SplitR.none _⟩, fun s hs hb => ?_⟩
              rw [show ([16, 17, 18] : List Nat).erase 17 = [16, 18] from rfl] at *
              simp only [List.mem_cons, List.not_mem_nil, or_false] at hs
              rcases hs with rfl | rfl
              · refine ⟨_, rfl, rfl, fun E eF he hx => ?_⟩
                subst he
                refine TL.alloc Ty.zero74 rfl (fun g7 => TL.nil ⟨rfl, _, rfl, ?_⟩)
                refine ⟨⟨_, SplitR.none _⟩, fun s hs hb => ?_⟩
                rw [show ([16, 18] : List Nat).erase 16 = [18] from rfl] at *
                simp only [List.mem_cons, List.not_mem_nil, or_false] at hs
                subst hs
                refine ⟨_, rfl, rfl, fun E eF he hx => ?_⟩
                subst he
                refine TL.store ((hx (.tmp 7) (by simp [Op.operands])).trans rfl) ((hx (.tmp 64) (by simp [Op.operands])).trans rfl) (.agg _) Try.sizeOf74 rfl (by repeat (first | exact UpdR.here _ | apply UpdR.there)) (by repeat (first | exact PutR.nil _ | apply PutR.here | apply PutR.skip)) (TL.nil ⟨rfl, none, rfl, ?_⟩)
                refine ⟨⟨_, SplitR.none _⟩, fun e he => ?_⟩
                subst he
                refine TL.store rfl rfl (.agg _) Try.sizeOf74 rfl (by repeat (first | exact UpdR.here _ | apply UpdR.there)) (by repeat (first | exact PutR.nil _ | apply PutR.here | apply PutR.skip)) ?_
                exact TL.nil ⟨rfl, g7, g8, ⟨by repeat (first | exact Agree.nil | refine Agree.cons rfl ?_), by repeat (first | exact List.nil_sublist _ | exact List.Sublist.refl _ | apply List.Sublist.cons_cons | apply List.Sublist.cons)⟩⟩
              · exact absurd (hb 16 (by simp)) (by decide +kernel)
            · exact absurd (hb 16 (by simp)) (by decide +kernel)
          · rintro env' H' ⟨g7, g8, ha⟩
            refine TC.at ha ?_
            refine TC.freezeBox 7 (List.cons_ne_nil _ _) (.here _) rfl ?_
            refine TC.freezeBox 8 (List.cons_ne_nil _ _) (.here _) rfl ?_
            refine TC.regionCut [73, 74, 75, 76, 77, 78, 79, 80, 81, 82, 83, 84, 85, 86, 87, 88, 89, 90, 91, 92, 93] 93 (False) ?_ ?_
            · skip
              first | refine TL.run1 (pure_fieldAddr Ty.f74_0 rfl (.zero _) (List.cons_ne_nil _ _)) rfl ?_ | refine TL.run1 (pure_fieldAddr_own Ty.f74_0 rfl) rfl ?_
              first | refine TL.run1 (pure_load1 Ty.one3 rfl) rfl ?_ | refine TL.run1 (pure_load1_own Ty.one3 rfl (by repeat (first | exact List.Mem.head _ | apply List.Mem.tail)) (by repeat (first | exact DropR.zero _ | apply DropR.succ))) rfl ?_
              first | refine TL.run1 (pure_fieldAddr Ty.f74_0 rfl (.zero _) (List.cons_ne_nil _ _)) rfl ?_ | refine TL.run1 (pure_fieldAddr_own Ty.f74_0 rfl) rfl ?_
              first | refine TL.run1 (pure_load1 Ty.one3 rfl) rfl ?_ | refine TL.run1 (pure_load1_own Ty.one3 rfl (by repeat (first | exact List.Mem.head _ | apply List.Mem.tail)) (by repeat (first | exact DropR.zero _ | apply DropR.succ))) rfl ?_
              refine TL.run1 (pure_neq rfl rfl) rfl ?_
              refine TL.run1 (pure_move rfl) rfl ?_
              first | refine TL.splitP 78 rfl (fun hg78 => ?_) (fun hg78 => ?_) | refine TL.split 78 rfl (fun hg78 => ?_) (fun hg78 => ?_)
              · try dsimp only at hg78
                refine TL.passG rfl rfl rfl rfl ?_
                refine TL.passG rfl rfl rfl rfl ?_
                refine TL.passG rfl rfl rfl rfl ?_
                refine TL.passG rfl rfl rfl rfl ?_
                refine TL.passG rfl rfl rfl rfl ?_
                refine TL.passG rfl rfl rfl rfl ?_
                refine TL.run1 (pure_pick_true rfl rfl) rfl ?_
                refine TL.run1 (pure_move rfl) rfl ?_
                refine TL.passG rfl rfl rfl rfl ?_
                refine TL.passG rfl rfl rfl rfl ?_
                refine TL.passG rfl rfl rfl rfl ?_
                refine TL.passG rfl rfl rfl rfl ?_
                refine TL.passG rfl rfl rfl rfl ?_
                refine TL.passG rfl rfl rfl rfl ?_
                refine TL.run1 (pure_pick_true rfl rfl) rfl ?_
                refine TL.cutEnd (by repeat (first | exact Same.refl _ _ | refine Same.put rfl ?_)) rfl ?_
                first | (simp_all; done) | grind
              · try dsimp only at hg78
                first | refine TL.runG rfl rfl (pure_fieldAddr Ty.f74_1 rfl (.succ (.zero _)) (List.cons_ne_nil _ _)) rfl ?_ | refine TL.runG rfl rfl (pure_fieldAddr_own Ty.f74_1 rfl) rfl ?_
                first | refine TL.runG rfl rfl (pure_load Ty.agg33 rfl (.succ (.succ (.succ (.succ (.succ (.zero _))))))) rfl ?_ | refine TL.runG rfl rfl (pure_load_own Ty.agg33 rfl (by repeat (first | exact List.Mem.head _ | apply List.Mem.tail)) (by repeat (first | exact DropR.zero _ | apply DropR.succ)) (.succ (.succ (.succ (.succ (.succ (.zero _))))))) rfl ?_
                first | refine TL.runG rfl rfl (pure_fieldAddr Ty.f74_1 rfl (.succ (.zero _)) (List.cons_ne_nil _ _)) rfl ?_ | refine TL.runG rfl rfl (pure_fieldAddr_own Ty.f74_1 rfl) rfl ?_
                first | refine TL.runG rfl rfl (pure_load Ty.agg33 rfl (.succ (.succ (.succ (.succ (.succ (.zero _))))))) rfl ?_ | refine TL.runG rfl rfl (pure_load_own Ty.agg33 rfl (by repeat (first | exact List.Mem.head _ | apply List.Mem.tail)) (by repeat (first | exact DropR.zero _ | apply DropR.succ)) (.succ (.succ (.succ (.succ (.succ (.zero _))))))) rfl ?_
                first | refine TL.runG rfl rfl (pure_call (Rsame_spec [(rAt rs i).hp, (rAt rs i).hi, (rAt rs i).hm, (rAt rs i).hd, (rAt rs i).hl] hT1) (.cons rfl (.cons rfl .nil)) Try.call50) rfl ?_ | refine TL.runG rfl rfl (pure_call (Rsame_spec [.sl 2 (encP (cAt (rAt rs i).cells k).props), (cAt (rAt rs i).cells k).ins, (cAt (rAt rs i).cells k).move, (cAt (rAt rs i).cells k).dels, (cAt (rAt rs i).cells k).layers] hC2) (.cons rfl (.cons rfl .nil)) Try.call50) rfl ?_
                refine TL.runG rfl rfl (pure_not rfl) rfl ?_
                refine TL.run1 (pure_pick_false rfl rfl) rfl ?_
                refine TL.run1 (pure_move rfl) rfl ?_
                first | refine TL.splitP 86 rfl (fun hg86 => ?_) (fun hg86 => ?_) | refine TL.split 86 rfl (fun hg86 => ?_) (fun hg86 => ?_)
                · try dsimp only at hg86
                  refine TL.passG rfl rfl rfl rfl ?_
                  refine TL.passG rfl rfl rfl rfl ?_
                  refine TL.passG rfl rfl rfl rfl ?_
                  refine TL.passG rfl rfl rfl rfl ?_
                  refine TL.passG rfl rfl rfl rfl ?_
                  refine TL.passG rfl rfl rfl rfl ?_
                  refine TL.run1 (pure_pick_true rfl rfl) rfl ?_
                  refine TL.cutEnd (by repeat (first | exact Same.refl _ _ | refine Same.put rfl ?_)) rfl ?_
                  first | (simp_all; done) | grind
                · try dsimp only at hg86
                  first | refine TL.runG rfl rfl (pure_fieldAddr Ty.f74_2 rfl (.succ (.succ (.succ (.succ (.succ (.succ (.zero _))))))) (List.cons_ne_nil _ _)) rfl ?_ | refine TL.runG rfl rfl (pure_fieldAddr_own Ty.f74_2 rfl) rfl ?_
                  first | refine TL.runG rfl rfl (pure_load1 Ty.one72 rfl) rfl ?_ | refine TL.runG rfl rfl (pure_load1_own Ty.one72 rfl (by repeat (first | exact List.Mem.head _ | apply List.Mem.tail)) (by repeat (first | exact DropR.zero _ | apply DropR.succ))) rfl ?_
                  first | refine TL.runG rfl rfl (pure_fieldAddr Ty.f74_2 rfl (.succ (.succ (.succ (.succ (.succ (.succ (.zero _))))))) (List.cons_ne_nil _ _)) rfl ?_ | refine TL.runG rfl rfl (pure_fieldAddr_own Ty.f74_2 rfl) rfl ?_
                  first | refine TL.runG rfl rfl (pure_load1 Ty.one72 rfl) rfl ?_ | refine TL.runG rfl rfl (pure_load1_own Ty.one72 rfl (by repeat (first | exact List.Mem.head _ | apply List.Mem.tail)) (by repeat (first | exact DropR.zero _ | apply DropR.succ))) rfl ?_
                  refine TL.runG rfl rfl (pure_call (Rflow_spec (cAt (rAt rs i).cells k).flow hC3) (.cons rfl (.cons rfl .nil)) Try.call51) rfl ?_
                  refine TL.runG rfl rfl (pure_not rfl) rfl ?_
                  refine TL.run1 (pure_pick_false rfl rfl) rfl ?_
                  refine TL.cutEnd (by repeat (first | exact Same.refl _ _ | refine Same.put rfl ?_)) rfl ?_
                  first | (simp_all; done) | grind
            first | refine TC.condD rfl (fun hc93 => ?_) (fun hc93 => ?_) | refine TC.condN rfl (fun hc93 => ?_) (fun hc93 => ?_) | refine TC.cond rfl (fun hc93 => ?_) (fun hc93 => ?_)
            · try dsimp only at hc93
              all_goals exact absurd hc93 id
            · try dsimp only at hc93
              refine TC.skip ?_
              refine block_normal ?_
              refine then_normal ?_
              refine TC.region ?_
              refine TL.run1 (pure_move rfl) rfl ?_
              refine TL.run1 (pure_add rfl rfl (mkI64 (by omega) (by omega))) rfl ?_
              refine TL.run1 (pure_assign rfl) rfl ?_
              refine TL.nil ?_
              refine loop_next (k + 1) ⟨by repeat (first | exact Agree.nil | refine Agree.cons rfl ?_), by repeat (first | exact List.nil_sublist _ | exact List.Sublist.refl _ | apply List.Sublist.cons_cons | apply List.Sublist.cons)⟩ ⟨by omega, by omega⟩ (by omega)
        · try dsimp only at hc54
          refine TC.exit ?_
          refine then_exit ?_
          refine loop_exit ?_
          refine block_here ?_
          refine block_normal ?_
          refine then_normal ?_
          refine TC.region ?_
          refine TL.run1 (pure_move rfl) rfl ?_
          refine TL.run1 (pure_add rfl rfl (mkI64 (by omega) (by omega))) rfl ?_
          refine TL.run1 (pure_assign rfl) rfl ?_
          refine TL.nil ?_
          refine loop_next (i + 1) ⟨by repeat (first | exact Agree.nil | refine Agree.cons rfl ?_), by repeat (first | exact List.nil_sublist _ | exact List.Sublist.refl _ | apply List.Sublist.cons_cons | apply List.Sublist.cons)⟩ ⟨by omega, by omega⟩ (by omega)
    · try dsimp only at hc17
      refine TC.exit ?_
      refine then_exit ?_
      refine loop_exit ?_
      refine block_here ?_
      refine then_normal ?_
      refine TC.seq ?_
      refine TC.region ?_
      refine TL.run1 (pure_assign rfl) rfl ?_
      refine TL.nil' ?_
      refine TC.ret ?_
      exact ret_bool rfl rfl
end Go.Ob
set_option linter.unusedVariables false
set_option linter.unusedSimpArgs false
namespace Go.Ob
open Go.Proofs
theorem sz_pair {n t : Nat} {ds : List D} {fs : Array Field} (hu : Try.prog.underlying t = some (.struct fs)) (hts : fs.toList.map (·.type) = [3, 3]) (h : TypedS Try.prog n t ds) : ∃ y : Int × Int, True ∧ ds = (fun p : Int × Int => [D.v (.int .i64 p.1), D.v (.int .i64 p.2)]) y := by
  obtain ⟨m0, ps0, _, rfl, a0⟩ := tys_st (ts := [3, 3]) hu hts h
  obtain ⟨p0, q0, rfl, h0, a0⟩ := alls_cons a0
  obtain ⟨p1, q1, rfl, h1, a0⟩ := alls_cons a0
  obtain rfl := alls_nil a0
  obtain ⟨x1, rfl, w1⟩ := tys_int Try.underlying3 h0
  obtain ⟨x2, rfl, w2⟩ := tys_int Try.underlying3 h1
  exact ⟨(x1, x2), trivial, rfl⟩
theorem sz_pairs {n t e : Nat} {ds : List D} {fs : Array Field} (ht : Try.prog.underlying t = some (.slice e)) (hes : Try.prog.cellsOf e = 2) (hby : Try.prog.bytesOf e = 16) (hu : Try.prog.underlying e = some (.struct fs)) (hts : fs.toList.map (·.type) = [3, 3]) (h : TypedS Try.prog n t ds) :
    ∃ ps : List (Int × Int), ds = [.sl 2 (encP ps)] ∧ SlB 2 16 (encP ps) ∧ ps.length ≤ 9223372036854775807 := by
  obtain ⟨m, xs, _, rfl, h1, h2, h3⟩ := tys_sl ht hes hby h
  obtain ⟨l, _, rfl⟩ := enc_list (ok := fun _ : Int × Int => True) (enc := fun p : Int × Int => [D.v (.int .i64 p.1), D.v (.int .i64 p.2)]) xs (fun x hx => sz_pair hu hts (h3 x hx).1)
  exact ⟨l, rfl, ⟨fun x hx => (h3 x hx).2, h2⟩, by simpa using h1⟩
theorem sz_lays {n : Nat} {ds : List D} (h : TypedS Try.prog n 29 ds) : ∃ ly : List Lay4, ds = [.sl 4 (encY ly)] ∧ SlB 4 32 (encY ly) ∧ ly.length ≤ 9223372036854775807 := by
  obtain ⟨m, xs, _, rfl, h1, h2, h3⟩ := tys_sl Try.underlying29 (by kernel_rfl : Try.prog.cellsOf 113 = 4) (by kernel_rfl : Try.prog.bytesOf 113 = 32) h
  obtain ⟨l, _, rfl⟩ := enc_list (ok := fun _ : Lay4 => True) (enc := fun y : Lay4 => [D.v (.int .i64 y.1), .v (.int .i64 y.2.1), .v (.int .i64 y.2.2.1), .v (.bool y.2.2.2)]) xs (fun x hx => by
    obtain ⟨m0, ps0, _, rfl, a0⟩ := tys_st (ts := [3, 3, 3, 4]) Try.underlying113 rfl (h3 x hx).1
    obtain ⟨p0, q0, rfl, h0, a0⟩ := alls_cons a0
    obtain ⟨p1, q1, rfl, h1, a0⟩ := alls_cons a0
    obtain ⟨p2, q2, rfl, h2, a0⟩ := alls_cons a0
    obtain ⟨p3, q3, rfl, h3, a0⟩ := alls_cons a0
    obtain rfl := alls_nil a0
    obtain ⟨x1, rfl, w1⟩ := tys_int Try.underlying3 h0
    obtain ⟨x2, rfl, w2⟩ := tys_int Try.underlying3 h1
    obtain ⟨x3, rfl, w3⟩ := tys_int Try.underlying3 h2
    obtain ⟨x4, rfl⟩ := tys_bool Try.underlying4 h3
    exact ⟨(x1, x2, x3, x4), trivial, rfl⟩)
  exact ⟨l, rfl, ⟨fun x hx => (h3 x hx).2, h2⟩, by simpa using h1⟩
theorem sz_head {n : Nat} {ds : List D} (h : TypedS Try.prog n 33 ds) : ∃ ps a b dl ly, ds = [.sl 2 (encP ps), .v (.int .i64 a), .v (.int .i64 b), .sl 2 (encP dl), .sl 4 (encY ly)] ∧ HeadB ds ∧ HeadT ds := by
  obtain ⟨m1, ps1, _, rfl, a1⟩ := tys_st (ts := [27, 31]) Try.underlying33 rfl h
  obtain ⟨p1_0, q1_0, rfl, h1_0, a1⟩ := alls_cons a1
  obtain ⟨p1_1, q1_1, rfl, h1_1, a1⟩ := alls_cons a1
  obtain rfl := alls_nil a1
  obtain ⟨ps, rfl, b1, l1⟩ := sz_pairs Try.underlying27 (by kernel_rfl : Try.prog.cellsOf 77 = 2) (by kernel_rfl : Try.prog.bytesOf 77 = 16) Try.underlying77 rfl h1_0
  obtain ⟨m3, ps3, _, rfl, a3⟩ := tys_st (ts := [3, 3, 28, 29]) Try.underlying31 rfl h1_1
  obtain ⟨p3_0, q3_0, rfl, h3_0, a3⟩ := alls_cons a3
  obtain ⟨p3_1, q3_1, rfl, h3_1, a3⟩ := alls_cons a3
  obtain ⟨p3_2, q3_2, rfl, h3_2, a3⟩ := alls_cons a3
  obtain ⟨p3_3, q3_3, rfl, h3_3, a3⟩ := alls_cons a3
  obtain rfl := alls_nil a3
  obtain ⟨a, rfl, w4⟩ := tys_int Try.underlying3 h3_0
  obtain ⟨b, rfl, w5⟩ := tys_int Try.underlying3 h3_1
  obtain ⟨dl, rfl, b2, l2⟩ := sz_pairs Try.underlying28 (by kernel_rfl : Try.prog.cellsOf 111 = 2) (by kernel_rfl : Try.prog.bytesOf 111 = 16) Try.underlying111 rfl h3_2
  obtain ⟨ly, rfl, b3, l3⟩ := sz_lays h3_3
  exact ⟨ps, a, b, dl, ly, rfl, ⟨_, a, b, _, _, rfl, b1, b2, b3⟩, ⟨ps, a, b, dl, ly, rfl, l1, l2, l3⟩⟩
theorem sz_flow {I : List D → Prop} {n : Nat} {ds : List D} (hI : ∀ j x, j < n → TypedS Try.prog j 115 x → I x) (h : TypedS Try.prog n 72 ds) : ∃ fl, ds = [.sl 11 fl] ∧ SlB 11 176 fl ∧ (∀ x ∈ fl, I x) ∧ FlowT fl := by
  obtain ⟨m, xs, hm, rfl, h1, h2, h3⟩ := tys_sl Try.underlying72 (by kernel_rfl : Try.prog.cellsOf 115 = 11) (by kernel_rfl : Try.prog.bytesOf 115 = 176) h
  refine ⟨xs, rfl, ⟨fun x hx => (h3 x hx).2, h2⟩, fun x hx => hI m x (by omega) (h3 x hx).1, h1, fun x hx => ?_⟩
  obtain ⟨m0, ps0, _, rfl, a0⟩ := tys_st (ts := [3, 3, 3, 9, 33, 72, 22]) Try.underlying115 rfl (h3 x hx).1
  obtain ⟨p0, q0, rfl, h0, a0⟩ := alls_cons a0
  obtain ⟨p1, q1, rfl, h1, a0⟩ := alls_cons a0
  obtain ⟨p2, q2, rfl, h2, a0⟩ := alls_cons a0
  obtain ⟨p3, q3, rfl, h3, a0⟩ := alls_cons a0
  obtain ⟨x1, rfl, w1⟩ := tys_int Try.underlying3 h0
  obtain ⟨x2, rfl, w2⟩ := tys_int Try.underlying3 h1
  obtain ⟨x3, rfl, w3⟩ := tys_int Try.underlying3 h2
  obtain ⟨s, rfl, w4⟩ := tys_str Try.underlying9 h3
  exact ⟨x1, x2, x3, s, q3.flatten, rfl⟩
theorem sz_cell {I : List D → Prop} {n : Nat} {ds : List D} (hI : ∀ j x, j < n → TypedS Try.prog j 115 x → I x) (h : TypedS Try.prog n 74 ds) : ∃ c : CellD, (CellB I (encC c) ∧ CellT c) ∧ ds = encC c := by
  obtain ⟨m0, ps0, hm, rfl, a0⟩ := tys_st (ts := [3, 33, 72]) Try.underlying74 rfl h
  obtain ⟨p0, q0, rfl, h0, a0⟩ := alls_cons a0
  obtain ⟨p1, q1, rfl, h1, a0⟩ := alls_cons a0
  obtain ⟨p2, q2, rfl, h2, a0⟩ := alls_cons a0
  obtain rfl := alls_nil a0
  obtain ⟨id, rfl, w1⟩ := tys_int Try.underlying3 h0
  obtain ⟨ps, a, b, dl, ly, rfl, hb, ht⟩ := sz_head h1
  obtain ⟨fl, rfl, s1, s2, s3⟩ := sz_flow (fun j x hj => hI j x (by omega)) h2
  exact ⟨⟨.v (.int .i64 id), ps, .v (.int .i64 a), .v (.int .i64 b), .sl 2 (encP dl), .sl 4 (encY ly), fl⟩, ⟨⟨id, _, fl, rfl, hb, s1, s2⟩, ⟨id, rfl⟩, ht, s3⟩, rfl⟩
theorem sz_row {I : List D → Prop} {n : Nat} {ds : List D} (hI : ∀ j x, j < n → TypedS Try.prog j 115 x → I x) (h : TypedS Try.prog n 36 ds) : ∃ r : RowD, ((∃ cs, HeadB [r.hp, r.hi, r.hm, r.hd, r.hl] ∧ encCs r.cells = cs ∧ SlB 7 120 cs ∧ ∀ x ∈ cs, CellB I x) ∧ HeadT [r.hp, r.hi, r.hm, r.hd, r.hl] ∧ r.cells.length ≤ 9223372036854775807 ∧ ∀ c ∈ r.cells, CellT c) ∧ ds = encR r := by
  obtain ⟨m0, ps0, hm, rfl, a0⟩ := tys_st (ts := [33, 34]) Try.underlying36 rfl h
  obtain ⟨p0, q0, rfl, h0, a0⟩ := alls_cons a0
  obtain ⟨p1, q1, rfl, h1, a0⟩ := alls_cons a0
  obtain rfl := alls_nil a0
  obtain ⟨ps, a, b, dl, ly, rfl, hb, ht⟩ := sz_head h0
  obtain ⟨m, xs, hm, rfl, h1, h2, h3⟩ := tys_sl Try.underlying34 (by kernel_rfl : Try.prog.cellsOf 74 = 7) (by kernel_rfl : Try.prog.bytesOf 74 = 120) h1
  obtain ⟨l, hl, rfl⟩ := enc_list (ok := fun c : CellD => CellB I (encC c) ∧ CellT c) (enc := encC) xs (fun x hx => sz_cell (fun j x hj => hI j x (by omega)) (h3 x hx).1)
  exact ⟨⟨.sl 2 (encP ps), .v (.int .i64 a), .v (.int .i64 b), .sl 2 (encP dl), .sl 4 (encY ly), l⟩, ⟨⟨_, hb, rfl, ⟨fun x hx => (h3 x hx).2, h2⟩, fun x hx => by
    obtain ⟨c, hc, rfl⟩ := List.mem_map.1 hx
    exact (hl c hc).1⟩, ht, by simpa using h1, fun c hc => (hl c hc).2⟩, rfl⟩
theorem sz_rows {I : List D → Prop} {n : Nat} {ds : List D} (hI : ∀ j x, j < n → TypedS Try.prog j 115 x → I x) (h : TypedS Try.prog n 22 ds) : ∃ rs : List RowD, ds = [.sl 6 (encRs rs)] ∧ SlB 6 112 (encRs rs) ∧ TabB I rs ∧ TabT rs := by
  obtain ⟨m, xs, hm, rfl, h1, h2, h3⟩ := tys_sl Try.underlying22 (by kernel_rfl : Try.prog.cellsOf 36 = 6) (by kernel_rfl : Try.prog.bytesOf 36 = 112) h
  obtain ⟨l, hl, rfl⟩ := enc_list (enc := encR) xs (fun x hx => sz_row (I := I) (fun j x hj => hI j x (by omega)) (h3 x hx).1)
  exact ⟨l, rfl, ⟨fun x hx => (h3 x hx).2, h2⟩, fun r hr => (hl r hr).1, by simpa using h1, fun r hr => (hl r hr).2⟩
theorem tabB_row {I : List D → Prop} {rs : List RowD} (h : TabB I rs) : ∀ x ∈ encRs rs, RowB I x := fun x hx => by
  obtain ⟨r, hr, rfl⟩ := List.mem_map.1 hx
  obtain ⟨cs, h1, rfl, h3, h4⟩ := h r hr
  exact ⟨_, _, rfl, h1, h3, h4⟩
theorem sz_item : ∀ (m k : Nat) (ds : List D), k ≤ m → TypedS Try.prog k 115 ds → ItemB m ds
  | 0, k, ds, hk, h => by
    obtain rfl : k = 0 := by omega
    exact h.elim
  | m + 1, k, ds, hk, h => by
    obtain ⟨m0, ps0, hm, rfl, a0⟩ := tys_st (ts := [3, 3, 3, 9, 33, 72, 22]) Try.underlying115 rfl h
    obtain ⟨p0, q0, rfl, h0, a0⟩ := alls_cons a0
    obtain ⟨p1, q1, rfl, h1, a0⟩ := alls_cons a0
    obtain ⟨p2, q2, rfl, h2, a0⟩ := alls_cons a0
    obtain ⟨p3, q3, rfl, h3, a0⟩ := alls_cons a0
    obtain ⟨p4, q4, rfl, h4, a0⟩ := alls_cons a0
    obtain ⟨p5, q5, rfl, h5, a0⟩ := alls_cons a0
    obtain ⟨p6, q6, rfl, h6, a0⟩ := alls_cons a0
    obtain rfl := alls_nil a0
    obtain ⟨x1, rfl, w1⟩ := tys_int Try.underlying3 h0
    obtain ⟨x2, rfl, w2⟩ := tys_int Try.underlying3 h1
    obtain ⟨x3, rfl, w3⟩ := tys_int Try.underlying3 h2
    obtain ⟨s, rfl, w4⟩ := tys_str Try.underlying9 h3
    obtain ⟨ps, a, b, dl, ly, rfl, hb, ht⟩ := sz_head h4
    obtain ⟨fl, rfl, s1, s2, s3⟩ := sz_flow (I := ItemB m) (fun j x hj hx => sz_item m j x (by omega) hx) h5
    obtain ⟨rs, rfl, r1, r2, r3⟩ := sz_rows (I := ItemB m) (fun j x hj hx => sz_item m j x (by omega) hx) h6
    exact ⟨x1, x2, x3, s, _, fl, _, rfl, hb, s1, r1, s2, tabB_row r2⟩
theorem open_rowsB {d : D} (h : ∃ n, TypedS Try.prog n 22 [d]) : ∃ (l : List RowD) (m : Nat), TabB (ItemB m) l ∧ TabT l ∧ d = .sl 6 (encRs l) := by
  obtain ⟨n, h⟩ := h
  obtain ⟨l, e, _, h1, h2⟩ := sz_rows (I := ItemB n) (fun j x hj hx => sz_item n j x (by omega) hx) h
  exact ⟨l, n, h1, h2, by simpa using e⟩
end Go.Ob
set_option linter.unusedVariables false
set_option linter.unusedSimpArgs false
namespace Go.Ob
open Go.Proofs
def endF : Int → List CellD → Int
  | k, [] => k
  | k, c :: cs => endF (k + min (spanN c) (32 - k)) cs
theorem spansFrom_append : ∀ (a b : List CellD) (k : Int), spansFrom k (a ++ b) = spansFrom k a ++ spansFrom (endF k a) b
  | [], b, k => rfl
  | c :: a, b, k => by simp [spansFrom, endF, spansFrom_append a b]
theorem sAt_pre (a b : List CellD) (k : Int) (j : Nat) : sAt (spansFrom k (a ++ b)) ((a.length + j : Nat) : Int) = sAt (spansFrom (endF k a) b) (j : Nat) := by
  unfold sAt
  rw [spansFrom_append, Int.toNat_natCast, Int.toNat_natCast, List.getD_eq_getElem?_getD, List.getD_eq_getElem?_getD, List.getElem?_append_right (by rw [spansFrom_len]; omega), spansFrom_len, Nat.add_sub_cancel_left]
theorem endF_of (cs : List CellD) (n : Nat) (h : n < cs.length) : endF 0 (cs.take n) = (sAt (spansFrom 0 cs) (n : Nat)).1 := by
  have e := sAt_pre (cs.take n) (cs.drop n) 0 0
  rw [List.take_append_drop, List.length_take, show min n cs.length + 0 = n by omega] at e
  rw [e, List.drop_eq_getElem_cons h]
  simp [sAt, spansFrom]
theorem HeadT.props {a b c d : D} {ps qs : List (Int × Int)} (h : HeadT [.sl 2 (encP ps), a, b, c, d]) (hl : qs.length ≤ ps.length) : HeadT [.sl 2 (encP qs), a, b, c, d] := by
  obtain ⟨ps', a', b', dl, ly, he, h1, h2, h3⟩ := h
  have e := List.cons.inj he
  have e1 : encP ps = encP ps' := by have := e.1; injection this
  have e2 := congrArg List.length e1
  rw [encP_len, encP_len] at e2
  exact ⟨qs, a', b', dl, ly, by rw [e.2], by omega, h2, h3⟩
theorem SmallT.cells {rs : List RowD} (h : SmallT rs) : ∀ r ∈ rs, r.cells.length ≤ 900 ∧ ∀ c ∈ r.cells, c.props.length ≤ 900 := by
  intro r hr
  obtain ⟨i, hi, rfl⟩ := List.mem_iff_getElem.1 hr
  have h1 := h.2 i (by omega) (by omega)
  have e : rAt rs i = rs[i] := by simp [rAt, hi]
  rw [e] at h1
  refine ⟨by have := h1.1; omega, fun c hc => ?_⟩
  obtain ⟨k, hk, rfl⟩ := List.mem_iff_getElem.1 hc
  have h2 := h1.2 k (by omega) (by omega)
  have e2 : cAt rs[i].cells k = rs[i].cells[k] := by simp [cAt, hk]
  rw [e2] at h2
  have := h2.1; omega
end Go.Ob
set_option linter.unusedVariables false
set_option linter.unusedSimpArgs false
namespace Go.Ob
open Go.Proofs
def putP (ps : List (Int × Int)) (key v u : Int) : List (Int × Int) := if v = u then clearP ps key else setP ps key v
theorem putP_len (ps : List (Int × Int)) (key v u : Int) : (putP ps key v u).length ≤ ps.length + 1 := by
  have h1 := clearP_len ps key
  have h2 := setP_len ps key v
  unfold putP; split <;> omega
theorem putP_inc {ps : List (Int × Int)} (h : Inc (keysP ps)) (key v u : Int) : Inc (keysP (putP ps key v u)) := by
  unfold putP; split
  · exact clearP_inc h key
  · exact setP_inc h key v
theorem putP_get {ps : List (Int × Int)} (key v u k d : Int) : getP (putP ps key v u) k d = if k = key then (if v = u then d else v) else getP ps k d := by
  rw [getP_look, getP_look]
  unfold putP
  by_cases hv : v = u
  · rw [if_pos hv, if_pos hv, clearP_look]; split <;> rfl
  · rw [if_neg hv, if_neg hv, setP_look]; split <;> rfl
def putC (c : CellD) (key v u : Int) : CellD := { c with props := putP c.props key v u }
theorem putC_ok {c : CellD} (h : Inc (keysP c.props)) (key v u : Int) : Inc (keysP (putC c key v u).props) ∧ (putC c key v u).props.length ≤ c.props.length + 1 := ⟨putP_inc h key v u, putP_len _ _ _ _⟩
def mvA (a : A4) (i : Int) : Int := if a.b = a.t + 1 then 0 else if i = a.t then 1 else 2
def mrgC (a : A4) (i : Int) (c : CellD) : CellD := putC (putC c 60 (a.r - a.l) 1) 61 (mvA a i) 0
def mrgK (a : A4) (i : Int) (r : RowD) (k : Nat) : List CellD :=
  if (sAt (spansR r) (k : Nat)).1 < a.l ∨ (sAt (spansR r) (k : Nat)).1 ≥ a.r ∨ (sAt (spansR r) (k : Nat)).1 = (sAt (spansR r) (k : Nat)).2 then [cAt r.cells (k : Nat)] else if (sAt (spansR r) (k : Nat)).1 > a.l then [] else [mrgC a i (cAt r.cells (k : Nat))]
def mrgTo (a : A4) (i : Int) (r : RowD) : Nat → List CellD
  | 0 => []
  | k + 1 => mrgTo a i r k ++ mrgK a i r k
theorem mrgTo_len (a : A4) (i : Int) (r : RowD) : ∀ k, (mrgTo a i r k).length ≤ k
  | 0 => Nat.le_refl _
  | k + 1 => by
    have := mrgTo_len a i r k
    rw [mrgTo, List.length_append]
    have : (mrgK a i r k).length ≤ 1 := by
      unfold mrgK; split
      · exact Nat.le_refl _
      · split <;> simp
    omega
def mrgR (a : A4) (i : Int) (r : RowD) : RowD := { r with cells := mrgTo a i r r.cells.length }
def fixC (a : A4) (r : RowD) (k : Nat) : CellD := if sAt (spansR r) (k : Nat) = (a.l, a.r) ∧ mergedN (cAt r.cells (k : Nat)) = 2 then putC (cAt r.cells (k : Nat)) 61 1 0 else cAt r.cells (k : Nat)
def fixTo (a : A4) (r : RowD) (n : Nat) : List CellD := (List.range r.cells.length).map fun (k : Nat) => if k < n then fixC a r k else cAt r.cells (k : Nat)
theorem fixTo_len (a : A4) (r : RowD) (n : Nat) : (fixTo a r n).length = r.cells.length := by simp [fixTo]
theorem fixTo_zero (a : A4) (r : RowD) : fixTo a r 0 = r.cells := by
  apply List.ext_getElem (by simp [fixTo])
  intro j h1 h2
  simp [fixTo, cAt, h2]
theorem fixTo_at (a : A4) (r : RowD) (n : Nat) (h : n < r.cells.length) : (fixTo a r n)[n]? = some (cAt r.cells (n : Nat)) := by
  simp [fixTo, h]
theorem fixTo_step (a : A4) (r : RowD) (n : Nat) (h : n < r.cells.length) : fixTo a r (n + 1) = (fixTo a r n).set n (fixC a r n) := by
  apply List.ext_getElem (by simp [fixTo])
  intro j h1 h2
  rw [List.getElem_set]
  by_cases he : n = j
  · subst he
    rw [if_pos rfl]
    simp [fixTo]
  · rw [if_neg he]
    simp only [fixTo, List.getElem_map, List.getElem_range]
    by_cases hc : j < n
    · rw [if_pos hc, if_pos (by omega)]
    · rw [if_neg hc, if_neg (by omega)]
theorem fixTo_same (a : A4) (r : RowD) (n : Nat) (h : n < r.cells.length) (he : ¬ (sAt (spansR r) (n : Nat) = (a.l, a.r) ∧ mergedN (cAt r.cells (n : Nat)) = 2)) : fixTo a r (n + 1) = fixTo a r n := by
  rw [fixTo_step a r n h]
  have e : fixC a r n = cAt r.cells (n : Nat) := by unfold fixC; rw [if_neg he]
  rw [e]
  refine List.ext_getElem? fun j => ?_
  rw [List.getElem?_set]
  split
  · rename_i hj; subst hj
    rw [fixTo_at a r n h, if_pos (by rw [fixTo_len]; exact h)]
  · rfl
def fixR (a : A4) (r : RowD) : RowD := { r with cells := fixTo a r r.cells.length }
def mrgI (rs : List RowD) (a : A4) (j : Int) : RowD := if a.t ≤ j ∧ j < a.b then mrgR a j (rAt rs j) else if j = a.b ∧ a.b > a.t + 1 then fixR a (rAt rs j) else rAt rs j
def mrgT (rs : List RowD) (a : A4) : List RowD := (List.range rs.length).map fun (j : Nat) => mrgI rs a (j : Nat)
theorem mrgT_len (rs : List RowD) (a : A4) : (mrgT rs a).length = rs.length := by simp [mrgT]
theorem mrgT_row (rs : List RowD) (a : A4) (i : Int) (h0 : 0 ≤ i) (h1 : i < rs.length) : rAt (mrgT rs a) i = mrgI rs a i := by
  have h : i.toNat < rs.length := by omega
  simp [rAt, mrgT, h, show ((i.toNat : Nat) : Int) = i by omega]
def FullA (rs : List RowD) (a : A4) : Prop := ∀ j : Int, a.t ≤ j → j < a.b → a.r ≤ spTo (rAt rs j) (rAt rs j).cells.length
def FillC (rs : List RowD) (a : A4) (j k : Int) : Prop := Val rs j k ∧ a.l ≤ (spN rs j k).1 ∧ (spN rs j k).1 < a.r ∧ 0 < (cAt (rAt rs j).cells k).flow.length ∧ (j ≠ a.t ∨ (spN rs j k).1 ≠ a.l)
def FillA (rs : List RowD) (a : A4) : Prop := ∃ j k, a.t ≤ j ∧ j < a.b ∧ FillC rs a j k
def FillTo (rs : List RowD) (a : A4) (i n : Int) : Prop := ∃ j k, a.t ≤ j ∧ (j < i ∨ (j = i ∧ k < n)) ∧ FillC rs a j k
theorem FillTo.zero (rs : List RowD) (a : A4) : ¬ FillTo rs a a.t 0 := by
  rintro ⟨j, k, h1, h2, h3⟩
  have := h3.1.2.2.1
  omega
theorem FillTo.row {rs : List RowD} {a : A4} {i : Int} : FillTo rs a i (ncN rs i) ↔ FillTo rs a (i + 1) 0 := by
  constructor
  · rintro ⟨j, k, h1, h2, h3⟩
    exact ⟨j, k, h1, .inl (by omega), h3⟩
  · rintro ⟨j, k, h1, h2, h3⟩
    have := h3.1.2.2.1
    rcases Int.lt_or_eq_of_le (show j ≤ i by omega) with h | h
    · exact ⟨j, k, h1, .inl h, h3⟩
    · subst h; exact ⟨j, k, h1, .inr ⟨rfl, h3.1.2.2.2.1⟩, h3⟩
theorem FillTo.step {rs : List RowD} {a : A4} {i n : Int} (hi : a.t ≤ i) : FillTo rs a i (n + 1) ↔ FillTo rs a i n ∨ FillC rs a i n := by
  constructor
  · rintro ⟨j, k, h1, h2, h3⟩
    by_cases h : j < i
    · exact .inl ⟨j, k, h1, .inl h, h3⟩
    · by_cases hk : k < n
      · exact .inl ⟨j, k, h1, .inr ⟨by omega, hk⟩, h3⟩
      · obtain rfl : j = i := by omega
        obtain rfl : k = n := by omega
        exact .inr h3
  · rintro (⟨j, k, h1, h2, h3⟩ | h)
    · exact ⟨j, k, h1, by omega, h3⟩
    · exact ⟨i, n, hi, .inr ⟨rfl, by omega⟩, h⟩
theorem FillTo.all {rs : List RowD} {a : A4} : FillTo rs a a.b 0 ↔ FillA rs a := by
  constructor
  · rintro ⟨j, k, h1, h2, h3⟩
    have := h3.1.2.2.1
    exact ⟨j, k, h1, by omega, h3⟩
  · rintro ⟨j, k, h1, h2, h3⟩
    exact ⟨j, k, h1, .inl h2, h3⟩
open Classical in
noncomputable def mrgE (rs : List RowD) (a : A4) : Int := if ¬ InsideA rs a then 2 else if covN rs a ≠ a ∨ ¬ FullA rs a then 20 else if FillA rs a then 38 else 0
open Classical in
noncomputable def mrgV (rs : List RowD) (a : A4) : List RowD := if mrgE rs a = 0 then mrgT rs a else []
theorem closed_row {rs : List RowD} {a : A4} (hc : ClosedA (layRects rs) a) {i k : Int} (h1 : a.t ≤ i) (h2 : i < a.b) (hv : Val rs i k) : (spN rs i k).2 ≤ a.l ∨ a.r ≤ (spN rs i k).1 ∨ (a.l ≤ (spN rs i k).1 ∧ (spN rs i k).2 ≤ a.r) := by
  by_cases h3 : a.l < (spN rs i k).2
  · by_cases h4 : (spN rs i k).1 < a.r
    · obtain ⟨q1, q2, q3, q4, q5⟩ := rectN_row hv
      have := hc (rectN rs i k) (rectN_mem hv) ⟨by omega, by omega, by omega, by omega⟩
      unfold SubQ at this
      right; right; omega
    · omega
  · omega
end Go.Ob
set_option linter.unusedVariables false
set_option linter.unusedSimpArgs false
namespace Go.Ob
open Go.Proofs
set_option maxRecDepth 100000 in
theorem putR_spec (cs : List (List D)) (vv : Value) (g off k : Nat) (c : CellD) (key v u : Int) (hg : vv.ownBlock = some g) (ho : off = k * 7) (hx : cs[k]? = some (encC c)) (hinc : Inc (keysP c.props)) (hl : c.props.length ≤ 1000000) : CallD Try.prog 46 [.v (.pointer (some ⟨g, off, none⟩)), .v (.int .i64 key), .v (.int .i64 v), .v (.int .i64 u)] [.row vv 74 7 cs] (fun _ H' => H' = [.row vv 74 7 (cs.set k (encC (putC c key v u)))]) := by
  refine CallD.enter (n := 34) (rs := []) Try.func46 rfl Try.ntmps46 Try.results46 rfl (fun w F => ?_)
  refine TC.seq ?_
  refine TC.region ?_
  refine TL.run1 (pure_move rfl) rfl ?_
  refine TL.run1 (pure_move rfl) rfl ?_
  refine TL.run1 (pure_eql rfl rfl) rfl ?_
  refine TL.nil' ?_
  first | refine TC.condD rfl (fun hc10 => ?_) (fun hc10 => ?_) | refine TC.condN rfl (fun hc10 => ?_) (fun hc10 => ?_) | refine TC.cond rfl (fun hc10 => ?_) (fun hc10 => ?_)
  · try dsimp only at hc10
    refine TC.region ?_
    refine TL.run1 (pure_move rfl) rfl ?_
    refine TL.run1 (pure_move rfl) rfl ?_
    first | refine TL.run1 (pure_nilCheck rfl) rfl ?_ | refine TL.run1 (pure_nilCheck_own rfl) rfl ?_
    first | refine TL.run1 (pure_fieldAddr Ty.f74_1 rfl (.succ (.zero _)) (List.cons_ne_nil _ _)) rfl ?_ | refine TL.run1 (pure_fieldAddr_own Ty.f74_1 rfl) rfl ?_
    first | refine TL.run1 (pure_fieldAddr Ty.f33_0 rfl (.zero _) (List.cons_ne_nil _ _)) rfl ?_ | refine TL.run1 (pure_fieldAddr_own Ty.f33_0 rfl) rfl ?_
    refine TL.run1 (pure_load1_row (es := 7) (i := k) (o := 1) Ty.one27 (by decide) rfl hg (by repeat (first | exact List.Mem.head _ | apply List.Mem.tail)) (by omega) hx (by repeat (first | exact DropR.zero _ | apply DropR.succ))) rfl ?_
    refine TL.run1 (pure_move rfl) rfl ?_
    refine TL.run1 (pure_call (Clear_spec c.props key hinc hl) (.cons rfl (.cons rfl .nil)) Try.call57) rfl ?_
    first | refine TL.run1 (pure_nilCheck rfl) rfl ?_ | refine TL.run1 (pure_nilCheck_own rfl) rfl ?_
    first | refine TL.run1 (pure_fieldAddr Ty.f74_1 rfl (.succ (.zero _)) (List.cons_ne_nil _ _)) rfl ?_ | refine TL.run1 (pure_fieldAddr_own Ty.f74_1 rfl) rfl ?_
    first | refine TL.run1 (pure_fieldAddr Ty.f33_0 rfl (.zero _) (List.cons_ne_nil _ _)) rfl ?_ | refine TL.run1 (pure_fieldAddr_own Ty.f33_0 rfl) rfl ?_
    refine TL.storeRow (es := 7) (i := k) (o := 1) (c' := encC { c with props := clearP c.props key }) rfl hg (by omega) rfl (.one rfl) Try.sizeOf27 rfl (by repeat (first | exact UpdR.here _ | apply UpdR.there)) hx (by repeat (first | exact PutR.nil _ | apply PutR.here | apply PutR.skip)) ?_
    refine TL.nil ?_
    have hpe : putC c key v u = { c with props := clearP c.props key } := by (unfold putC putP; rw [if_pos hc10])
    rw [hpe]
    exact ⟨.inr rfl, [], .nil, _, List.Sublist.refl _, rfl⟩
  · try dsimp only at hc10
    refine TC.region ?_
    refine TL.run1 (pure_move rfl) rfl ?_
    refine TL.run1 (pure_move rfl) rfl ?_
    first | refine TL.run1 (pure_nilCheck rfl) rfl ?_ | refine TL.run1 (pure_nilCheck_own rfl) rfl ?_
    first | refine TL.run1 (pure_fieldAddr Ty.f74_1 rfl (.succ (.zero _)) (List.cons_ne_nil _ _)) rfl ?_ | refine TL.run1 (pure_fieldAddr_own Ty.f74_1 rfl) rfl ?_
    first | refine TL.run1 (pure_fieldAddr Ty.f33_0 rfl (.zero _) (List.cons_ne_nil _ _)) rfl ?_ | refine TL.run1 (pure_fieldAddr_own Ty.f33_0 rfl) rfl ?_
    refine TL.run1 (pure_load1_row (es := 7) (i := k) (o := 1) Ty.one27 (by decide) rfl hg (by repeat (first | exact List.Mem.head _ | apply List.Mem.tail)) (by omega) hx (by repeat (first | exact DropR.zero _ | apply DropR.succ))) rfl ?_
    refine TL.run1 (pure_move rfl) rfl ?_
    refine TL.run1 (pure_move rfl) rfl ?_
    refine TL.run1 (pure_call (Set_spec c.props key v hinc hl) (.cons rfl (.cons rfl (.cons rfl .nil))) Try.call58) rfl ?_
    first | refine TL.run1 (pure_nilCheck rfl) rfl ?_ | refine TL.run1 (pure_nilCheck_own rfl) rfl ?_
    first | refine TL.run1 (pure_fieldAddr Ty.f74_1 rfl (.succ (.zero _)) (List.cons_ne_nil _ _)) rfl ?_ | refine TL.run1 (pure_fieldAddr_own Ty.f74_1 rfl) rfl ?_
    first | refine TL.run1 (pure_fieldAddr Ty.f33_0 rfl (.zero _) (List.cons_ne_nil _ _)) rfl ?_ | refine TL.run1 (pure_fieldAddr_own Ty.f33_0 rfl) rfl ?_
    refine TL.storeRow (es := 7) (i := k) (o := 1) (c' := encC { c with props := setP c.props key v }) rfl hg (by omega) rfl (.one rfl) Try.sizeOf27 rfl (by repeat (first | exact UpdR.here _ | apply UpdR.there)) hx (by repeat (first | exact PutR.nil _ | apply PutR.here | apply PutR.skip)) ?_
    refine TL.nil ?_
    have hpe : putC c key v u = { c with props := setP c.props key v } := by (unfold putC putP; rw [if_neg hc10])
    rw [hpe]
    exact ⟨.inr rfl, [], .nil, _, List.Sublist.refl _, rfl⟩
set_option maxRecDepth 100000 in
theorem putB_spec (g : Nat) (c : CellD) (key v u : Int) (hinc : Inc (keysP c.props)) (hl : c.props.length ≤ 1000000) : CallD Try.prog 46 [.v (.pointer (some ⟨g, 0, none⟩)), .v (.int .i64 key), .v (.int .i64 v), .v (.int .i64 u)] [.box g 74 (encC c)] (fun _ H' => H' = [.box g 74 (encC (putC c key v u))]) := by
  refine CallD.enter (n := 34) (rs := []) Try.func46 rfl Try.ntmps46 Try.results46 rfl (fun w F => ?_)
  refine TC.seq ?_
  refine TC.region ?_
  refine TL.run1 (pure_move rfl) rfl ?_
  refine TL.run1 (pure_move rfl) rfl ?_
  refine TL.run1 (pure_eql rfl rfl) rfl ?_
  refine TL.nil' ?_
  first | refine TC.condD rfl (fun hc10 => ?_) (fun hc10 => ?_) | refine TC.condN rfl (fun hc10 => ?_) (fun hc10 => ?_) | refine TC.cond rfl (fun hc10 => ?_) (fun hc10 => ?_)
  · try dsimp only at hc10
    refine TC.region ?_
    refine TL.run1 (pure_move rfl) rfl ?_
    refine TL.run1 (pure_move rfl) rfl ?_
    first | refine TL.run1 (pure_nilCheck rfl) rfl ?_ | refine TL.run1 (pure_nilCheck_own rfl) rfl ?_
    first | refine TL.run1 (pure_fieldAddr Ty.f74_1 rfl (.succ (.zero _)) (List.cons_ne_nil _ _)) rfl ?_ | refine TL.run1 (pure_fieldAddr_own Ty.f74_1 rfl) rfl ?_
    first | refine TL.run1 (pure_fieldAddr Ty.f33_0 rfl (.zero _) (List.cons_ne_nil _ _)) rfl ?_ | refine TL.run1 (pure_fieldAddr_own Ty.f33_0 rfl) rfl ?_
    first | refine TL.run1 (pure_load1 Ty.one27 rfl) rfl ?_ | refine TL.run1 (pure_load1_own Ty.one27 rfl (by repeat (first | exact List.Mem.head _ | apply List.Mem.tail)) (by repeat (first | exact DropR.zero _ | apply DropR.succ))) rfl ?_
    refine TL.run1 (pure_move rfl) rfl ?_
    refine TL.run1 (pure_call (Clear_spec c.props key hinc hl) (.cons rfl (.cons rfl .nil)) Try.call57) rfl ?_
    first | refine TL.run1 (pure_nilCheck rfl) rfl ?_ | refine TL.run1 (pure_nilCheck_own rfl) rfl ?_
    first | refine TL.run1 (pure_fieldAddr Ty.f74_1 rfl (.succ (.zero _)) (List.cons_ne_nil _ _)) rfl ?_ | refine TL.run1 (pure_fieldAddr_own Ty.f74_1 rfl) rfl ?_
    first | refine TL.run1 (pure_fieldAddr Ty.f33_0 rfl (.zero _) (List.cons_ne_nil _ _)) rfl ?_ | refine TL.run1 (pure_fieldAddr_own Ty.f33_0 rfl) rfl ?_
    refine TL.store rfl rfl (.one (by first | rfl | assumption)) Try.sizeOf27 rfl (by repeat (first | exact UpdR.here _ | apply UpdR.there)) (by repeat (first | exact PutR.nil _ | apply PutR.here | apply PutR.skip)) ?_
    refine TL.nil ?_
    have hpe : putC c key v u = { c with props := clearP c.props key } := by (unfold putC putP; rw [if_pos hc10])
    rw [hpe]
    exact ⟨.inr rfl, [], .nil, _, List.Sublist.refl _, rfl⟩
  · try dsimp only at hc10
    refine TC.region ?_
    refine TL.run1 (pure_move rfl) rfl ?_
    refine TL.run1 (pure_move rfl) rfl ?_
    first | refine TL.run1 (pure_nilCheck rfl) rfl ?_ | refine TL.run1 (pure_nilCheck_own rfl) rfl ?_
    first | refine TL.run1 (pure_fieldAddr Ty.f74_1 rfl (.succ (.zero _)) (List.cons_ne_nil _ _)) rfl ?_ | refine TL.run1 (pure_fieldAddr_own Ty.f74_1 rfl) rfl ?_
    first | refine TL.run1 (pure_fieldAddr Ty.f33_0 rfl (.zero _) (List.cons_ne_nil _ _)) rfl ?_ | refine TL.run1 (pure_fieldAddr_own Ty.f33_0 rfl) rfl ?_
    first | refine TL.run1 (pure_load1 Ty.one27 rfl) rfl ?_ | refine TL.run1 (pure_load1_own Ty.one27 rfl (by repeat (first | exact List.Mem.head _ | apply List.Mem.tail)) (by repeat (first | exact DropR.zero _ | apply DropR.succ))) rfl ?_
    refine TL.run1 (pure_move rfl) rfl ?_
    refine TL.run1 (pure_move rfl) rfl ?_
    refine TL.run1 (pure_call (Set_spec c.props key v hinc hl) (.cons rfl (.cons rfl (.cons rfl .nil))) Try.call58) rfl ?_
    first | refine TL.run1 (pure_nilCheck rfl) rfl ?_ | refine TL.run1 (pure_nilCheck_own rfl) rfl ?_
    first | refine TL.run1 (pure_fieldAddr Ty.f74_1 rfl (.succ (.zero _)) (List.cons_ne_nil _ _)) rfl ?_ | refine TL.run1 (pure_fieldAddr_own Ty.f74_1 rfl) rfl ?_
    first | refine TL.run1 (pure_fieldAddr Ty.f33_0 rfl (.zero _) (List.cons_ne_nil _ _)) rfl ?_ | refine TL.run1 (pure_fieldAddr_own Ty.f33_0 rfl) rfl ?_
    refine TL.store rfl rfl (.one (by first | rfl | assumption)) Try.sizeOf27 rfl (by repeat (first | exact UpdR.here _ | apply UpdR.there)) (by repeat (first | exact PutR.nil _ | apply PutR.here | apply PutR.skip)) ?_
    refine TL.nil ?_
    have hpe : putC c key v u = { c with props := setP c.props key v } := by (unfold putC putP; rw [if_neg hc10])
    rw [hpe]
    exact ⟨.inr rfl, [], .nil, _, List.Sublist.refl _, rfl⟩
end Go.Ob
