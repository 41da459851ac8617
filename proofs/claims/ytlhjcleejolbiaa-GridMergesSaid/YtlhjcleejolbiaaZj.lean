import Derived.Test.YtlhjcleejolbiaaZi
set_option linter.unusedVariables false
set_option linter.unusedSimpArgs false
set_option linter.unnecessarySimpa false
set_option linter.unusedVariables false
set_option linter.unusedSimpArgs false
namespace Go.Ob
open Go.Proofs
theorem TC.freezeBox {K : Ctx} {Q : Exit → Env → Hp → Prop} {env : Env} {H H' : Hp} {c : Code} {g T : Nat} {cs : List D} (t : Nat) (hne : cs ≠ []) (hd : DelR (.box g T cs) H H') (ht : env t = some (.v (.pointer (some ⟨g, 0, none⟩)))) (h : TC K c Q (env.put t (some (.at_ cs))) H') : TC K c Q env H :=
  TC.view (fun a w hs => hs.frz hd.sub.1 fun t' d' hd' => by
    rcases Env.put_some hd' with ⟨rfl, e⟩ | ⟨_, e⟩
    · cases e; exact ⟨_, ht, .boxS ⟨hd.sub.2, hd.apart hs.heap.apart⟩ hne⟩
    · exact ⟨d', e, .same d'⟩) h
theorem TL.rowOne {K : Ctx} {Q : Exit → Env → Hp → Prop} {env : Env} {H : Hp} {ops : Array Oper} {l : List Oper} {v : Value} {e es : Nat} {xs : List (List D)} (hm : Blk.row v e es xs ∈ H) (h : v.oneCell' = true → TL K ops l Q env H) : TL K ops l Q env H := fun a w hs => by
  obtain ⟨vals, hown, _⟩ := row_ok hs.heap hm
  rcases hown.2 with ⟨hv, hn⟩ | ⟨g, cap, cur, hv, _, _, hle, _⟩
  · exact h (by rw [hv]; rfl) a w hs
  · exact h (by rw [hv]; rfl) a w hs
def SlB (es by' : Nat) (xs : List (List D)) : Prop := (∀ x ∈ xs, x.length = es) ∧ xs.length * by' ≤ 140737488355328
def HeadB (ds : List D) : Prop := ∃ ps i m dl ly, ds = [.sl 2 ps, .v (.int .i64 i), .v (.int .i64 m), .sl 2 dl, .sl 4 ly] ∧ SlB 2 16 ps ∧ SlB 2 16 dl ∧ SlB 4 32 ly
def CellB (I : List D → Prop) (ds : List D) : Prop := ∃ id h fl, ds = .v (.int .i64 id) :: (h ++ [.sl 11 fl]) ∧ HeadB h ∧ SlB 11 176 fl ∧ ∀ x ∈ fl, I x
def RowB (I : List D → Prop) (ds : List D) : Prop := ∃ h cs, ds = h ++ [.sl 7 cs] ∧ HeadB h ∧ SlB 7 120 cs ∧ ∀ x ∈ cs, CellB I x
def ItemB : Nat → List D → Prop
  | 0, _ => False
  | n + 1, ds => ∃ a b c s h fl rs, ds = .v (.int .i64 a) :: .v (.int .i64 b) :: .v (.int .i64 c) :: .v (.string s) :: (h ++ [.sl 11 fl, .sl 6 rs]) ∧ HeadB h ∧ SlB 11 176 fl ∧ SlB 6 112 rs ∧ (∀ x ∈ fl, ItemB n x) ∧ ∀ x ∈ rs, RowB (ItemB n) x
theorem HeadB.len {ds : List D} (h : HeadB ds) : ds.length = 5 := by obtain ⟨ps, i, m, dl, ly, rfl, _⟩ := h; rfl
theorem CellB.len {I : List D → Prop} {ds : List D} (h : CellB I ds) : ds.length = 7 := by
  obtain ⟨id, hd, fl, rfl, h1, _⟩ := h
  have := h1.len
  simp [this]
theorem RowB.len {I : List D → Prop} {ds : List D} (h : RowB I ds) : ds.length = 6 := by
  obtain ⟨hd, cs, rfl, h1, _⟩ := h
  have := h1.len
  simp [this]
theorem len5 {α : Type} {l : List α} (h : l.length = 5) : ∃ a b c d e, l = [a, b, c, d, e] := by
  match l, h with
  | [a, b, c, d, e], _ => exact ⟨a, b, c, d, e, rfl⟩
theorem len6 {α : Type} {l : List α} (h : l.length = 6) : ∃ a b c d e f, l = [a, b, c, d, e, f] := by
  match l, h with
  | [a, b, c, d, e, f], _ => exact ⟨a, b, c, d, e, f, rfl⟩
theorem len7 {α : Type} {l : List α} (h : l.length = 7) : ∃ a b c d e f g, l = [a, b, c, d, e, f, g] := by
  match l, h with
  | [a, b, c, d, e, f, g], _ => exact ⟨a, b, c, d, e, f, g, rfl⟩
theorem len11 {α : Type} {l : List α} (h : l.length = 11) : ∃ a b c d e f g i j k m, l = [a, b, c, d, e, f, g, i, j, k, m] := by
  match l, h with
  | [a, b, c, d, e, f, g, i, j, k, m], _ => exact ⟨a, b, c, d, e, f, g, i, j, k, m, rfl⟩
theorem take_next {α : Type} {xs : List α} {i : Nat} {x : α} (h : xs[i]? = some x) : xs.take (i + 1) = xs.take i ++ [x] := by
  rw [List.take_add_one, h]; rfl
theorem ItemB.len : ∀ {n : Nat} {ds : List D}, ItemB n ds → ds.length = 11
  | 0, _, h => h.elim
  | n + 1, _, ⟨a, b, c, s, hd, fl, rs, e, h1, _⟩ => by
    subst e
    have := h1.len
    simp [this]
set_option maxRecDepth 100000 in
theorem cloneP12_spec (xs : List (List D)) (hx : SlB 2 16 xs) : Fun Try.prog 72 [.sl 2 xs] (.sl 2 xs) := by
  refine Fun.enterF (n := 8) (rs := [.tmp 2]) Try.func72 rfl Try.ntmps72 Try.results72 rfl (fun w F => ?_)
  obtain ⟨he, hbd⟩ := hx
  refine TC.seq ?_
  refine TC.region ?_
  refine TL.run1 (pure_assign rfl) rfl ?_
  refine TL.nil' ?_
  refine TC.seq ?_
  refine TC.seq ?_
  refine TC.region ?_
  refine TL.run1 (pure_move rfl) rfl ?_
  refine TL.eqlNil Try.underlying27 rfl rfl rfl (fun b hb => ?_)
  refine TL.nil' ?_
  first | refine TC.condD rfl (fun hc4 => ?_) (fun hc4 => ?_) | refine TC.condN rfl (fun hc4 => ?_) (fun hc4 => ?_) | refine TC.cond rfl (fun hc4 => ?_) (fun hc4 => ?_)
  · try dsimp only at hc4
    refine TC.nilrow 77 2 ?_
    refine TC.seq ?_
    refine TC.region ?_
    refine TL.run1 (pure_assign rfl) rfl ?_
    refine TL.nil' ?_
    refine TC.ret ?_
    refine then_ret ?_
    exact retF_row rfl (by repeat (first | exact List.Mem.head _ | apply List.Mem.tail)) (by decide) (by simp) (by rw [hb hc4])
  · try dsimp only at hc4
    refine TC.skip' ?_
    refine TC.seq ?_
    refine TC.region ?_
    refine TL.buildRow (xs := []) (ys := []) Ty.app27 (by decide) rfl rfl .nil rfl (fun v5 hv5 => ?_)
    refine TL.run1 (pure_move rfl) rfl ?_
    refine TL.append Ty.app27 rfl rfl (by intro _; repeat (first | exact UpdR.here _ | apply UpdR.there)) (by simp only [List.length_append, List.length_cons, List.length_nil]; omega) (by simp only [List.length_append, List.length_cons, List.length_nil]; omega) rfl (fun v7 hv7 => ?_)
    refine TL.run1 (pure_assign rfl) rfl ?_
    refine TL.nil' ?_
    refine TC.ret ?_
    exact retF_row rfl (by repeat (first | exact List.Mem.head _ | apply List.Mem.tail)) (by decide) he rfl
set_option maxRecDepth 100000 in
theorem cloneDel_spec (xs : List (List D)) (hx : SlB 2 16 xs) : Fun Try.prog 73 [.sl 2 xs] (.sl 2 xs) := by
  refine Fun.enterF (n := 8) (rs := [.tmp 2]) Try.func73 rfl Try.ntmps73 Try.results73 rfl (fun w F => ?_)
  obtain ⟨he, hbd⟩ := hx
  refine TC.seq ?_
  refine TC.region ?_
  refine TL.run1 (pure_assign rfl) rfl ?_
  refine TL.nil' ?_
  refine TC.seq ?_
  refine TC.seq ?_
  refine TC.region ?_
  refine TL.run1 (pure_move rfl) rfl ?_
  refine TL.eqlNil Try.underlying28 rfl rfl rfl (fun b hb => ?_)
  refine TL.nil' ?_
  first | refine TC.condD rfl (fun hc4 => ?_) (fun hc4 => ?_) | refine TC.condN rfl (fun hc4 => ?_) (fun hc4 => ?_) | refine TC.cond rfl (fun hc4 => ?_) (fun hc4 => ?_)
  · try dsimp only at hc4
    refine TC.nilrow 111 2 ?_
    refine TC.seq ?_
    refine TC.region ?_
    refine TL.run1 (pure_assign rfl) rfl ?_
    refine TL.nil' ?_
    refine TC.ret ?_
    refine then_ret ?_
    exact retF_row rfl (by repeat (first | exact List.Mem.head _ | apply List.Mem.tail)) (by decide) (by simp) (by rw [hb hc4])
  · try dsimp only at hc4
    refine TC.skip' ?_
    refine TC.seq ?_
    refine TC.region ?_
    refine TL.buildRow (xs := []) (ys := []) Ty.app28 (by decide) rfl rfl .nil rfl (fun v5 hv5 => ?_)
    refine TL.run1 (pure_move rfl) rfl ?_
    refine TL.append Ty.app28 rfl rfl (by intro _; repeat (first | exact UpdR.here _ | apply UpdR.there)) (by simp only [List.length_append, List.length_cons, List.length_nil]; omega) (by simp only [List.length_append, List.length_cons, List.length_nil]; omega) rfl (fun v7 hv7 => ?_)
    refine TL.run1 (pure_assign rfl) rfl ?_
    refine TL.nil' ?_
    refine TC.ret ?_
    exact retF_row rfl (by repeat (first | exact List.Mem.head _ | apply List.Mem.tail)) (by decide) he rfl
set_option maxRecDepth 100000 in
theorem cloneLay_spec (xs : List (List D)) (hx : SlB 4 32 xs) : Fun Try.prog 74 [.sl 4 xs] (.sl 4 xs) := by
  refine Fun.enterF (n := 8) (rs := [.tmp 2]) Try.func74 rfl Try.ntmps74 Try.results74 rfl (fun w F => ?_)
  obtain ⟨he, hbd⟩ := hx
  refine TC.seq ?_
  refine TC.region ?_
  refine TL.run1 (pure_assign rfl) rfl ?_
  refine TL.nil' ?_
  refine TC.seq ?_
  refine TC.seq ?_
  refine TC.region ?_
  refine TL.run1 (pure_move rfl) rfl ?_
  refine TL.eqlNil Try.underlying29 rfl rfl rfl (fun b hb => ?_)
  refine TL.nil' ?_
  first | refine TC.condD rfl (fun hc4 => ?_) (fun hc4 => ?_) | refine TC.condN rfl (fun hc4 => ?_) (fun hc4 => ?_) | refine TC.cond rfl (fun hc4 => ?_) (fun hc4 => ?_)
  · try dsimp only at hc4
    refine TC.nilrow 113 4 ?_
    refine TC.seq ?_
    refine TC.region ?_
    refine TL.run1 (pure_assign rfl) rfl ?_
    refine TL.nil' ?_
    refine TC.ret ?_
    refine then_ret ?_
    exact retF_row rfl (by repeat (first | exact List.Mem.head _ | apply List.Mem.tail)) (by decide) (by simp) (by rw [hb hc4])
  · try dsimp only at hc4
    refine TC.skip' ?_
    refine TC.seq ?_
    refine TC.region ?_
    refine TL.buildRow (xs := []) (ys := []) Ty.app29 (by decide) rfl rfl .nil rfl (fun v5 hv5 => ?_)
    refine TL.run1 (pure_move rfl) rfl ?_
    refine TL.append Ty.app29 rfl rfl (by intro _; repeat (first | exact UpdR.here _ | apply UpdR.there)) (by simp only [List.length_append, List.length_cons, List.length_nil]; omega) (by simp only [List.length_append, List.length_cons, List.length_nil]; omega) rfl (fun v7 hv7 => ?_)
    refine TL.run1 (pure_assign rfl) rfl ?_
    refine TL.nil' ?_
    refine TC.ret ?_
    exact retF_row rfl (by repeat (first | exact List.Mem.head _ | apply List.Mem.tail)) (by decide) he rfl
set_option maxRecDepth 100000 in
theorem CloneHead_spec (ds : List D) (h : HeadB ds) : Fun Try.prog 63 [.agg ds] (.agg ds) := by
  obtain ⟨ps, i, m, dl, ly, rfl, h1, h2, h3⟩ := h
  refine Fun.enterF (n := 20) (rs := [.cell 2 33]) Try.func63 rfl Try.ntmps63 Try.results63 rfl (fun w F => ?_)
  refine TC.seq ?_
  refine TC.region ?_
  refine TL.box rfl (.agg _) rfl (fun g1 => ?_)
  refine TL.alloc Ty.zero33 rfl (fun g2 => ?_)
  refine TL.nil' ?_
  refine TC.seq ?_
  refine TC.region ?_
  first | refine TL.run1 (pure_fieldAddr Ty.f33_0 rfl (.zero _) (List.cons_ne_nil _ _)) rfl ?_ | refine TL.run1 (pure_fieldAddr_own Ty.f33_0 rfl) rfl ?_
  first | refine TL.run1 (pure_load1 Ty.one27 rfl) rfl ?_ | refine TL.run1 (pure_load1_own Ty.one27 rfl (by repeat (first | exact List.Mem.head _ | apply List.Mem.tail)) (by repeat (first | exact DropR.zero _ | apply DropR.succ))) rfl ?_
  refine TL.run1 (pure_call (cloneP12_spec ps h1) (.cons rfl .nil) Try.call72) rfl ?_
  first | refine TL.run1 (pure_fieldAddr Ty.f33_0 rfl (.zero _) (List.cons_ne_nil _ _)) rfl ?_ | refine TL.run1 (pure_fieldAddr_own Ty.f33_0 rfl) rfl ?_
  refine TL.store rfl rfl (.one (by first | rfl | assumption)) Try.sizeOf27 rfl (by repeat (first | exact UpdR.here _ | apply UpdR.there)) (by repeat (first | exact PutR.nil _ | apply PutR.here | apply PutR.skip)) ?_
  refine TL.nil' ?_
  refine TC.seq ?_
  refine TC.drawSq 13 8 0 [10] [Blk.box g1 33 [.sl 2 ps, .v (.int .i64 i), .v (.int .i64 m), .sl 2 dl, .sl 4 ly]] [] Ty.follows (by decide) rfl (by kernel_rfl) (by kernel_rfl) (by kernel_rfl) (by kernel_rfl) (SplitR.none _) ?_
  first | refine TD.run1 (pure_fieldAddr Ty.f33_1 rfl (.succ (.zero _)) (List.cons_ne_nil _ _)) rfl ?_ | refine TD.run1 (pure_fieldAddr_own Ty.f33_1 rfl) rfl ?_
  first | refine TD.run1 (pure_fieldAddr Ty.f31_2 rfl (.succ (.succ (.zero _))) (List.cons_ne_nil _ _)) rfl ?_ | refine TD.run1 (pure_fieldAddr_own Ty.f31_2 rfl) rfl ?_
  first | refine TD.run1 (pure_load1 Ty.one28 rfl) rfl ?_ | refine TD.run1 (pure_load1_own Ty.one28 rfl (by repeat (first | exact List.Mem.head _ | apply List.Mem.tail)) (by repeat (first | exact DropR.zero _ | apply DropR.succ))) rfl ?_
  refine TD.run1 (pure_call (cloneDel_spec dl h2) (.cons rfl .nil) Try.call73) rfl ?_
  first | refine TD.run1 (pure_fieldAddr Ty.f33_1 rfl (.succ (.zero _)) (List.cons_ne_nil _ _)) rfl ?_ | refine TD.run1 (pure_fieldAddr_own Ty.f33_1 rfl) rfl ?_
  first | refine TD.run1 (pure_fieldAddr Ty.f31_3 rfl (.succ (.succ (.succ (.zero _)))) (List.cons_ne_nil _ _)) rfl ?_ | refine TD.run1 (pure_fieldAddr_own Ty.f31_3 rfl) rfl ?_
  first | refine TD.run1 (pure_load1 Ty.one29 rfl) rfl ?_ | refine TD.run1 (pure_load1_own Ty.one29 rfl (by repeat (first | exact List.Mem.head _ | apply List.Mem.tail)) (by repeat (first | exact DropR.zero _ | apply DropR.succ))) rfl ?_
  refine TD.run1 (pure_call (cloneLay_spec ly h3) (.cons rfl .nil) Try.call74) rfl ?_
  refine TD.nil ?_
  first | refine TD.run1 (pure_fieldAddr Ty.f33_1 rfl (.succ (.zero _)) (List.cons_ne_nil _ _)) rfl ?_ | refine TD.run1 (pure_fieldAddr_own Ty.f33_1 rfl) rfl ?_
  first | refine TD.run1 (pure_fieldAddr Ty.f31_2 rfl (.succ (.succ (.zero _))) (List.cons_ne_nil _ _)) rfl ?_ | refine TD.run1 (pure_fieldAddr_own Ty.f31_2 rfl) rfl ?_
  refine TD.mute ?_
  first | refine TD.run1 (pure_fieldAddr Ty.f33_1 rfl (.succ (.zero _)) (List.cons_ne_nil _ _)) rfl ?_ | refine TD.run1 (pure_fieldAddr_own Ty.f33_1 rfl) rfl ?_
  first | refine TD.run1 (pure_fieldAddr Ty.f31_3 rfl (.succ (.succ (.succ (.zero _)))) (List.cons_ne_nil _ _)) rfl ?_ | refine TD.run1 (pure_fieldAddr_own Ty.f31_3 rfl) rfl ?_
  refine TD.nil ?_
  refine ⟨⟨_, .right (.left .nil)⟩, fun s hs hb => ?_⟩
  simp only [List.mem_cons, List.not_mem_nil, or_false] at hs
  subst hs
  refine ⟨_, rfl, rfl, fun E eF he hx0 => ?_⟩
  subst he
  refine TL.store ((hx0 (.tmp 16) (by simp [Op.operands, Call.operands])).trans rfl) ((hx0 (.tmp 10) (by simp [Op.operands, Call.operands])).trans rfl) (.one rfl) Try.sizeOf28 rfl (by repeat (first | exact UpdR.here _ | apply UpdR.there)) (by repeat (first | exact PutR.nil _ | apply PutR.here | apply PutR.skip)) ?_
  refine TL.nil ⟨rfl, none, rfl, ?_⟩
  refine ⟨⟨_, SplitR.none _⟩, fun e he => ?_⟩
  subst he
  simp only [List.drop_succ_cons, List.drop_zero]
  refine TL.store rfl rfl (.one (by first | rfl | assumption)) Try.sizeOf29 rfl (by repeat (first | exact UpdR.here _ | apply UpdR.there)) (by repeat (first | exact PutR.nil _ | apply PutR.here | apply PutR.skip)) ?_
  refine TL.nil' ?_
  refine TC.seq ?_
  refine TC.region ?_
  first | refine TL.run1 (pure_load Ty.agg33 rfl (.succ (.succ (.succ (.succ (.succ (.zero _))))))) rfl ?_ | refine TL.run1 (pure_load_own Ty.agg33 rfl (by repeat (first | exact List.Mem.head _ | apply List.Mem.tail)) (by repeat (first | exact DropR.zero _ | apply DropR.succ)) (.succ (.succ (.succ (.succ (.succ (.zero _))))))) rfl ?_
  refine TL.store rfl rfl (.agg _) Try.sizeOf33 rfl (by repeat (first | exact UpdR.here _ | apply UpdR.there)) (by repeat (first | exact PutR.nil _ | apply PutR.here | apply PutR.skip)) ?_
  refine TL.nil' ?_
  refine TC.ret ?_
  exact retF_cell (.inl rfl) Ty.agg33 rfl (by repeat (first | exact List.Mem.head _ | apply List.Mem.tail)) rfl (.same _)
set_option maxRecDepth 100000 in
theorem eachItem_spec (xs : List (List D)) (hx : SlB 11 176 xs) (hf : ∀ x ∈ xs, Fun Try.prog 86 [.agg x] (.agg x)) : Fun Try.prog 85 [.sl 11 xs, .fn 86 []] (.sl 11 xs) := by
  refine Fun.enterF (n := 22) (rs := [.tmp 4]) Try.func85 rfl Try.ntmps85 Try.results85 rfl (fun w F => ?_)
  obtain ⟨he, hbd⟩ := hx
  refine TC.seq ?_
  refine TC.region ?_
  refine TL.run1 (pure_assign rfl) rfl ?_
  refine TL.nil' ?_
  refine TC.seq ?_
  refine TC.region ?_
  refine TL.run1 (pure_assign rfl) rfl ?_
  refine TL.nil' ?_
  refine TC.seq ?_
  refine TC.seq ?_
  refine TC.nilrow 115 11 ?_
  refine TC.region ?_
  refine TL.run1 (pure_move rfl) rfl ?_
  first | refine TL.run1 (pure_len Ty.sl72 rfl) rfl ?_ | refine TL.run1 (pure_len_row Ty.sl72 rfl (by repeat (first | exact List.Mem.head _ | apply List.Mem.tail))) rfl ?_ | refine TL.run1 (pure_len_nil Ty.sl72 rfl) rfl ?_
  refine TL.run1 (pure_move rfl) rfl ?_
  refine TL.nil' ?_
  refine TC.block ?_
  refine TC.loopX (X := Nat × Value) (fun (i, v) => [(1, .fn 86 []), (5, .v v), (8, .sl 11 xs), (9, .v (.int .i64 xs.length)), (10, .v (.int .i64 i))]) (fun (i, v) => [.row v 115 11 (xs.take i)]) (fun (i, v) => (i ≤ xs.length)) (fun (i, v) => xs.length - i) (0, .slice none 0 0) ⟨by skip; repeat (first | exact Agree.nil | refine Agree.cons rfl ?_), by skip; repeat (first | exact List.nil_sublist _ | exact List.Sublist.refl _ | apply List.Sublist.cons_cons | apply List.Sublist.cons)⟩ ?_ ?_
  · skip
    exact Nat.zero_le _
  rintro ⟨i, v⟩
  intro h1
  show TC _ _ _ (Env.of [(1, .fn 86 []), (5, .v v), (8, .sl 11 xs), (9, .v (.int .i64 xs.length)), (10, .v (.int .i64 i))]) [.row v 115 11 (xs.take i)]
  refine TC.seq ?_
  refine TC.region ?_
  refine TL.run1 (pure_lss rfl rfl) rfl ?_
  refine TL.nil' ?_
  refine TC.seq ?_
  first | refine TC.condD rfl (fun hc11 => ?_) (fun hc11 => ?_) | refine TC.condN rfl (fun hc11 => ?_) (fun hc11 => ?_) | refine TC.cond rfl (fun hc11 => ?_) (fun hc11 => ?_)
  · try dsimp only at hc11
    refine TC.skip' ?_
    refine TC.seq ?_
    refine TC.block ?_
    refine TC.seq ?_
    have hil : i < xs.length := by omega
    obtain ⟨x, hx0⟩ : ∃ x, xs[i]? = some x := ⟨_, List.getElem?_eq_getElem hil⟩
    have hxm := List.mem_of_getElem? hx0
    have hfx := hf x hxm
    obtain ⟨a0, a1, a2, a3, a4, a5, a6, a7, a8, a9, a10, rfl⟩ := len11 (he x hxm)
    have hrow : xs[((i : Nat) : Int).toNat]? = some [a0, a1, a2, a3, a4, a5, a6, a7, a8, a9, a10] := by (rw [Int.toNat_natCast]; exact hx0)
    have htk : (xs.take i).length = i := by (rw [List.length_take]; omega)
    refine TC.region ?_
    refine TL.run1 (pure_indexAddr Ty.sl72 rfl rfl (by omega) hrow (List.cons_ne_nil _ _)) rfl ?_
    first | refine TL.run1 (pure_load Ty.agg115 rfl (.succ (.succ (.succ (.succ (.succ (.succ (.succ (.succ (.succ (.succ (.succ (.zero _))))))))))))) rfl ?_ | refine TL.run1 (pure_load_own Ty.agg115 rfl (by repeat (first | exact List.Mem.head _ | apply List.Mem.tail)) (by repeat (first | exact DropR.zero _ | apply DropR.succ)) (.succ (.succ (.succ (.succ (.succ (.succ (.succ (.succ (.succ (.succ (.succ (.zero _))))))))))))) rfl ?_
    refine TL.alloc Ty.zero115 rfl (fun g7 => ?_)
    refine TL.store rfl rfl (.agg _) Try.sizeOf115 rfl (by repeat (first | exact UpdR.here _ | apply UpdR.there)) (by repeat (first | exact PutR.nil _ | apply PutR.here | apply PutR.skip)) ?_
    refine TL.nil' ?_
    refine TC.region ?_
    refine TL.run1 (pure_move rfl) rfl ?_
    refine TL.run1 (pure_move rfl) rfl ?_
    first | refine TL.run1 (pure_load Ty.agg115 rfl (.succ (.succ (.succ (.succ (.succ (.succ (.succ (.succ (.succ (.succ (.succ (.zero _))))))))))))) rfl ?_ | refine TL.run1 (pure_load_own Ty.agg115 rfl (by repeat (first | exact List.Mem.head _ | apply List.Mem.tail)) (by repeat (first | exact DropR.zero _ | apply DropR.succ)) (.succ (.succ (.succ (.succ (.succ (.succ (.succ (.succ (.succ (.succ (.succ (.zero _))))))))))))) rfl ?_
    refine TL.run1 (pure_callv rfl (hfx) (.cons rfl .nil) Try.call86) rfl ?_
    refine TL.run1 (pure_buildSlice (xs := [.tmp 17]) Ty.app72 (by decide) rfl rfl (.cons rfl (.agg _) rfl .nil)) rfl ?_
    refine TL.append Ty.app72 rfl rfl (by intro _; repeat (first | exact UpdR.here _ | apply UpdR.there)) (by simp only [List.length_append, List.length_cons, List.length_nil]; omega) (by simp only [List.length_append, List.length_cons, List.length_nil]; omega) rfl (fun v19 hv19 => ?_)
    refine TL.run1 (pure_assign rfl) rfl ?_
    refine TL.nil ?_
    refine block_normal ?_
    refine then_normal ?_
    refine TC.region ?_
    refine TL.run1 (pure_add rfl rfl (mkI64 (by omega) (by omega))) rfl ?_
    refine TL.run1 (pure_move rfl) rfl ?_
    refine TL.nil ?_
    refine loop_next (i + 1, v19) ⟨by ((try dsimp only); rw [show (((i + 1 : Nat)) : Int) = (i : Int) + 1 by omega]; repeat (first | exact Agree.nil | refine Agree.cons rfl ?_)), by (try dsimp only); rw [take_next hx0]; repeat (first | exact List.nil_sublist _ | exact List.Sublist.refl _ | apply List.Sublist.cons_cons | apply List.Sublist.cons)⟩ (show i + 1 ≤ _ by omega) (by (try dsimp only); omega)
  · try dsimp only at hc11
    refine TC.exit ?_
    refine then_exit ?_
    refine loop_exit ?_
    refine block_here ?_
    refine then_normal ?_
    refine TC.seq ?_
    refine TC.region ?_
    refine TL.run1 (pure_move rfl) rfl ?_
    refine TL.run1 (pure_assign rfl) rfl ?_
    refine TL.nil' ?_
    refine TC.ret ?_
    have hie : i = xs.length := by omega
    subst hie
    rw [List.take_length]
    exact retF_row rfl (by repeat (first | exact List.Mem.head _ | apply List.Mem.tail)) (by decide) he rfl
set_option maxRecDepth 100000 in
theorem eachRow_spec (xs : List (List D)) (hx : SlB 6 112 xs) (hf : ∀ x ∈ xs, Fun Try.prog 56 [.agg x] (.agg x)) : Fun Try.prog 87 [.sl 6 xs, .fn 56 []] (.sl 6 xs) := by
  refine Fun.enterF (n := 22) (rs := [.tmp 4]) Try.func87 rfl Try.ntmps87 Try.results87 rfl (fun w F => ?_)
  obtain ⟨he, hbd⟩ := hx
  refine TC.seq ?_
  refine TC.region ?_
  refine TL.run1 (pure_assign rfl) rfl ?_
  refine TL.nil' ?_
  refine TC.seq ?_
  refine TC.region ?_
  refine TL.run1 (pure_assign rfl) rfl ?_
  refine TL.nil' ?_
  refine TC.seq ?_
  refine TC.seq ?_
  refine TC.nilrow 36 6 ?_
  refine TC.region ?_
  refine TL.run1 (pure_move rfl) rfl ?_
  first | refine TL.run1 (pure_len Ty.sl22 rfl) rfl ?_ | refine TL.run1 (pure_len_row Ty.sl22 rfl (by repeat (first | exact List.Mem.head _ | apply List.Mem.tail))) rfl ?_ | refine TL.run1 (pure_len_nil Ty.sl22 rfl) rfl ?_
  refine TL.run1 (pure_move rfl) rfl ?_
  refine TL.nil' ?_
  refine TC.block ?_
  refine TC.loopX (X := Nat × Value) (fun (i, v) => [(1, .fn 56 []), (5, .v v), (8, .sl 6 xs), (9, .v (.int .i64 xs.length)), (10, .v (.int .i64 i))]) (fun (i, v) => [.row v 36 6 (xs.take i)]) (fun (i, v) => (i ≤ xs.length)) (fun (i, v) => xs.length - i) (0, .slice none 0 0) ⟨by skip; repeat (first | exact Agree.nil | refine Agree.cons rfl ?_), by skip; repeat (first | exact List.nil_sublist _ | exact List.Sublist.refl _ | apply List.Sublist.cons_cons | apply List.Sublist.cons)⟩ ?_ ?_
  · skip
    exact Nat.zero_le _
  rintro ⟨i, v⟩
  intro h1
  show TC _ _ _ (Env.of [(1, .fn 56 []), (5, .v v), (8, .sl 6 xs), (9, .v (.int .i64 xs.length)), (10, .v (.int .i64 i))]) [.row v 36 6 (xs.take i)]
  refine TC.seq ?_
  refine TC.region ?_
  refine TL.run1 (pure_lss rfl rfl) rfl ?_
  refine TL.nil' ?_
  refine TC.seq ?_
  first | refine TC.condD rfl (fun hc11 => ?_) (fun hc11 => ?_) | refine TC.condN rfl (fun hc11 => ?_) (fun hc11 => ?_) | refine TC.cond rfl (fun hc11 => ?_) (fun hc11 => ?_)
  · try dsimp only at hc11
    refine TC.skip' ?_
    refine TC.seq ?_
    refine TC.block ?_
    refine TC.seq ?_
    have hil : i < xs.length := by omega
    obtain ⟨x, hx0⟩ : ∃ x, xs[i]? = some x := ⟨_, List.getElem?_eq_getElem hil⟩
    have hxm := List.mem_of_getElem? hx0
    have hfx := hf x hxm
    obtain ⟨a0, a1, a2, a3, a4, a5, rfl⟩ := len6 (he x hxm)
    have hrow : xs[((i : Nat) : Int).toNat]? = some [a0, a1, a2, a3, a4, a5] := by (rw [Int.toNat_natCast]; exact hx0)
    have htk : (xs.take i).length = i := by (rw [List.length_take]; omega)
    refine TC.region ?_
    refine TL.run1 (pure_indexAddr Ty.sl22 rfl rfl (by omega) hrow (List.cons_ne_nil _ _)) rfl ?_
    first | refine TL.run1 (pure_load Ty.agg36 rfl (.succ (.succ (.succ (.succ (.succ (.succ (.zero _)))))))) rfl ?_ | refine TL.run1 (pure_load_own Ty.agg36 rfl (by repeat (first | exact List.Mem.head _ | apply List.Mem.tail)) (by repeat (first | exact DropR.zero _ | apply DropR.succ)) (.succ (.succ (.succ (.succ (.succ (.succ (.zero _)))))))) rfl ?_
    refine TL.alloc Ty.zero36 rfl (fun g7 => ?_)
    refine TL.store rfl rfl (.agg _) Try.sizeOf36 rfl (by repeat (first | exact UpdR.here _ | apply UpdR.there)) (by repeat (first | exact PutR.nil _ | apply PutR.here | apply PutR.skip)) ?_
    refine TL.nil' ?_
    refine TC.region ?_
    refine TL.run1 (pure_move rfl) rfl ?_
    refine TL.run1 (pure_move rfl) rfl ?_
    first | refine TL.run1 (pure_load Ty.agg36 rfl (.succ (.succ (.succ (.succ (.succ (.succ (.zero _)))))))) rfl ?_ | refine TL.run1 (pure_load_own Ty.agg36 rfl (by repeat (first | exact List.Mem.head _ | apply List.Mem.tail)) (by repeat (first | exact DropR.zero _ | apply DropR.succ)) (.succ (.succ (.succ (.succ (.succ (.succ (.zero _)))))))) rfl ?_
    refine TL.run1 (pure_callv rfl (hfx) (.cons rfl .nil) Try.call56) rfl ?_
    refine TL.run1 (pure_buildSlice (xs := [.tmp 17]) Ty.app22 (by decide) rfl rfl (.cons rfl (.agg _) rfl .nil)) rfl ?_
    refine TL.append Ty.app22 rfl rfl (by intro _; repeat (first | exact UpdR.here _ | apply UpdR.there)) (by simp only [List.length_append, List.length_cons, List.length_nil]; omega) (by simp only [List.length_append, List.length_cons, List.length_nil]; omega) rfl (fun v19 hv19 => ?_)
    refine TL.run1 (pure_assign rfl) rfl ?_
    refine TL.nil ?_
    refine block_normal ?_
    refine then_normal ?_
    refine TC.region ?_
    refine TL.run1 (pure_add rfl rfl (mkI64 (by omega) (by omega))) rfl ?_
    refine TL.run1 (pure_move rfl) rfl ?_
    refine TL.nil ?_
    refine loop_next (i + 1, v19) ⟨by ((try dsimp only); rw [show (((i + 1 : Nat)) : Int) = (i : Int) + 1 by omega]; repeat (first | exact Agree.nil | refine Agree.cons rfl ?_)), by (try dsimp only); rw [take_next hx0]; repeat (first | exact List.nil_sublist _ | exact List.Sublist.refl _ | apply List.Sublist.cons_cons | apply List.Sublist.cons)⟩ (show i + 1 ≤ _ by omega) (by (try dsimp only); omega)
  · try dsimp only at hc11
    refine TC.exit ?_
    refine then_exit ?_
    refine loop_exit ?_
    refine block_here ?_
    refine then_normal ?_
    refine TC.seq ?_
    refine TC.region ?_
    refine TL.run1 (pure_move rfl) rfl ?_
    refine TL.run1 (pure_assign rfl) rfl ?_
    refine TL.nil' ?_
    refine TC.ret ?_
    have hie : i = xs.length := by omega
    subst hie
    rw [List.take_length]
    exact retF_row rfl (by repeat (first | exact List.Mem.head _ | apply List.Mem.tail)) (by decide) he rfl
set_option maxRecDepth 100000 in
theorem eachCell_spec (xs : List (List D)) (hx : SlB 7 120 xs) (hf : ∀ x ∈ xs, Fun Try.prog 65 [.agg x] (.agg x)) : Fun Try.prog 64 [.sl 7 xs, .fn 65 []] (.sl 7 xs) := by
  refine Fun.enterF (n := 22) (rs := [.tmp 4]) Try.func64 rfl Try.ntmps64 Try.results64 rfl (fun w F => ?_)
  obtain ⟨he, hbd⟩ := hx
  refine TC.seq ?_
  refine TC.region ?_
  refine TL.run1 (pure_assign rfl) rfl ?_
  refine TL.nil' ?_
  refine TC.seq ?_
  refine TC.region ?_
  refine TL.run1 (pure_assign rfl) rfl ?_
  refine TL.nil' ?_
  refine TC.seq ?_
  refine TC.seq ?_
  refine TC.nilrow 74 7 ?_
  refine TC.region ?_
  refine TL.run1 (pure_move rfl) rfl ?_
  first | refine TL.run1 (pure_len Ty.sl34 rfl) rfl ?_ | refine TL.run1 (pure_len_row Ty.sl34 rfl (by repeat (first | exact List.Mem.head _ | apply List.Mem.tail))) rfl ?_ | refine TL.run1 (pure_len_nil Ty.sl34 rfl) rfl ?_
  refine TL.run1 (pure_move rfl) rfl ?_
  refine TL.nil' ?_
  refine TC.block ?_
  refine TC.loopX (X := Nat × Value) (fun (i, v) => [(1, .fn 65 []), (5, .v v), (8, .sl 7 xs), (9, .v (.int .i64 xs.length)), (10, .v (.int .i64 i))]) (fun (i, v) => [.row v 74 7 (xs.take i)]) (fun (i, v) => (i ≤ xs.length)) (fun (i, v) => xs.length - i) (0, .slice none 0 0) ⟨by skip; repeat (first | exact Agree.nil | refine Agree.cons rfl ?_), by skip; repeat (first | exact List.nil_sublist _ | exact List.Sublist.refl _ | apply List.Sublist.cons_cons | apply List.Sublist.cons)⟩ ?_ ?_
  · skip
    exact Nat.zero_le _
  rintro ⟨i, v⟩
  intro h1
  show TC _ _ _ (Env.of [(1, .fn 65 []), (5, .v v), (8, .sl 7 xs), (9, .v (.int .i64 xs.length)), (10, .v (.int .i64 i))]) [.row v 74 7 (xs.take i)]
  refine TC.seq ?_
  refine TC.region ?_
  refine TL.run1 (pure_lss rfl rfl) rfl ?_
  refine TL.nil' ?_
  refine TC.seq ?_
  first | refine TC.condD rfl (fun hc11 => ?_) (fun hc11 => ?_) | refine TC.condN rfl (fun hc11 => ?_) (fun hc11 => ?_) | refine TC.cond rfl (fun hc11 => ?_) (fun hc11 => ?_)
  · try dsimp only at hc11
    refine TC.skip' ?_
    refine TC.seq ?_
    refine TC.block ?_
    refine TC.seq ?_
    have hil : i < xs.length := by omega
    obtain ⟨x, hx0⟩ : ∃ x, xs[i]? = some x := ⟨_, List.getElem?_eq_getElem hil⟩
    have hxm := List.mem_of_getElem? hx0
    have hfx := hf x hxm
    obtain ⟨a0, a1, a2, a3, a4, a5, a6, rfl⟩ := len7 (he x hxm)
    have hrow : xs[((i : Nat) : Int).toNat]? = some [a0, a1, a2, a3, a4, a5, a6] := by (rw [Int.toNat_natCast]; exact hx0)
    have htk : (xs.take i).length = i := by (rw [List.length_take]; omega)
    refine TC.region ?_
    refine TL.run1 (pure_indexAddr Ty.sl34 rfl rfl (by omega) hrow (List.cons_ne_nil _ _)) rfl ?_
    first | refine TL.run1 (pure_load Ty.agg74 rfl (.succ (.succ (.succ (.succ (.succ (.succ (.succ (.zero _))))))))) rfl ?_ | refine TL.run1 (pure_load_own Ty.agg74 rfl (by repeat (first | exact List.Mem.head _ | apply List.Mem.tail)) (by repeat (first | exact DropR.zero _ | apply DropR.succ)) (.succ (.succ (.succ (.succ (.succ (.succ (.succ (.zero _))))))))) rfl ?_
    refine TL.alloc Ty.zero74 rfl (fun g7 => ?_)
    refine TL.store rfl rfl (.agg _) Try.sizeOf74 rfl (by repeat (first | exact UpdR.here _ | apply UpdR.there)) (by repeat (first | exact PutR.nil _ | apply PutR.here | apply PutR.skip)) ?_
    refine TL.nil' ?_
    refine TC.region ?_
    refine TL.run1 (pure_move rfl) rfl ?_
    refine TL.run1 (pure_move rfl) rfl ?_
    first | refine TL.run1 (pure_load Ty.agg74 rfl (.succ (.succ (.succ (.succ (.succ (.succ (.succ (.zero _))))))))) rfl ?_ | refine TL.run1 (pure_load_own Ty.agg74 rfl (by repeat (first | exact List.Mem.head _ | apply List.Mem.tail)) (by repeat (first | exact DropR.zero _ | apply DropR.succ)) (.succ (.succ (.succ (.succ (.succ (.succ (.succ (.zero _))))))))) rfl ?_
    refine TL.run1 (pure_callv rfl (hfx) (.cons rfl .nil) Try.call65) rfl ?_
    refine TL.run1 (pure_buildSlice (xs := [.tmp 17]) Ty.app34 (by decide) rfl rfl (.cons rfl (.agg _) rfl .nil)) rfl ?_
    refine TL.append Ty.app34 rfl rfl (by intro _; repeat (first | exact UpdR.here _ | apply UpdR.there)) (by simp only [List.length_append, List.length_cons, List.length_nil]; omega) (by simp only [List.length_append, List.length_cons, List.length_nil]; omega) rfl (fun v19 hv19 => ?_)
    refine TL.run1 (pure_assign rfl) rfl ?_
    refine TL.nil ?_
    refine block_normal ?_
    refine then_normal ?_
    refine TC.region ?_
    refine TL.run1 (pure_add rfl rfl (mkI64 (by omega) (by omega))) rfl ?_
    refine TL.run1 (pure_move rfl) rfl ?_
    refine TL.nil ?_
    refine loop_next (i + 1, v19) ⟨by ((try dsimp only); rw [show (((i + 1 : Nat)) : Int) = (i : Int) + 1 by omega]; repeat (first | exact Agree.nil | refine Agree.cons rfl ?_)), by (try dsimp only); rw [take_next hx0]; repeat (first | exact List.nil_sublist _ | exact List.Sublist.refl _ | apply List.Sublist.cons_cons | apply List.Sublist.cons)⟩ (show i + 1 ≤ _ by omega) (by (try dsimp only); omega)
  · try dsimp only at hc11
    refine TC.exit ?_
    refine then_exit ?_
    refine loop_exit ?_
    refine block_here ?_
    refine then_normal ?_
    refine TC.seq ?_
    refine TC.region ?_
    refine TL.run1 (pure_move rfl) rfl ?_
    refine TL.run1 (pure_assign rfl) rfl ?_
    refine TL.nil' ?_
    refine TC.ret ?_
    have hie : i = xs.length := by omega
    subst hie
    rw [List.take_length]
    exact retF_row rfl (by repeat (first | exact List.Mem.head _ | apply List.Mem.tail)) (by decide) he rfl
set_option maxRecDepth 100000 in
theorem eachCellD_spec (xs : List (List D)) (hx : SlB 7 120 xs) (hf : ∀ x ∈ xs, Fun Try.prog 65 [.agg x] (.agg x)) : CallD Try.prog 64 [.sl 7 xs, .fn 65 []] [] (fun r H' => ∃ v, r = .v v ∧ H' = [.row v 74 7 xs]) := by
  refine CallD.enter (n := 22) (rs := [.tmp 4]) Try.func64 rfl Try.ntmps64 Try.results64 rfl (fun w F => ?_)
  obtain ⟨he, hbd⟩ := hx
  refine TC.seq ?_
  refine TC.region ?_
  refine TL.run1 (pure_assign rfl) rfl ?_
  refine TL.nil' ?_
  refine TC.seq ?_
  refine TC.region ?_
  refine TL.run1 (pure_assign rfl) rfl ?_
  refine TL.nil' ?_
  refine TC.seq ?_
  refine TC.seq ?_
  refine TC.nilrow 74 7 ?_
  refine TC.region ?_
  refine TL.run1 (pure_move rfl) rfl ?_
  first | refine TL.run1 (pure_len Ty.sl34 rfl) rfl ?_ | refine TL.run1 (pure_len_row Ty.sl34 rfl (by repeat (first | exact List.Mem.head _ | apply List.Mem.tail))) rfl ?_ | refine TL.run1 (pure_len_nil Ty.sl34 rfl) rfl ?_
  refine TL.run1 (pure_move rfl) rfl ?_
  refine TL.nil' ?_
  refine TC.block ?_
  refine TC.loopX (X := Nat × Value) (fun (i, v) => [(1, .fn 65 []), (5, .v v), (8, .sl 7 xs), (9, .v (.int .i64 xs.length)), (10, .v (.int .i64 i))]) (fun (i, v) => [.row v 74 7 (xs.take i)]) (fun (i, v) => (i ≤ xs.length)) (fun (i, v) => xs.length - i) (0, .slice none 0 0) ⟨by skip; repeat (first | exact Agree.nil | refine Agree.cons rfl ?_), by skip; repeat (first | exact List.nil_sublist _ | exact List.Sublist.refl _ | apply List.Sublist.cons_cons | apply List.Sublist.cons)⟩ ?_ ?_
  · skip
    exact Nat.zero_le _
  rintro ⟨i, v⟩
  intro h1
  show TC _ _ _ (Env.of [(1, .fn 65 []), (5, .v v), (8, .sl 7 xs), (9, .v (.int .i64 xs.length)), (10, .v (.int .i64 i))]) [.row v 74 7 (xs.take i)]
  refine TC.seq ?_
  refine TC.region ?_
  refine TL.run1 (pure_lss rfl rfl) rfl ?_
  refine TL.nil' ?_
  refine TC.seq ?_
  first | refine TC.condD rfl (fun hc11 => ?_) (fun hc11 => ?_) | refine TC.condN rfl (fun hc11 => ?_) (fun hc11 => ?_) | refine TC.cond rfl (fun hc11 => ?_) (fun hc11 => ?_)
  · try dsimp only at hc11
    refine TC.skip' ?_
    refine TC.seq ?_
    refine TC.block ?_
    refine TC.seq ?_
    have hil : i < xs.length := by omega
    obtain ⟨x, hx0⟩ : ∃ x, xs[i]? = some x := ⟨_, List.getElem?_eq_getElem hil⟩
    have hxm := List.mem_of_getElem? hx0
    have hfx := hf x hxm
    obtain ⟨a0, a1, a2, a3, a4, a5, a6, rfl⟩ := len7 (he x hxm)
    have hrow : xs[((i : Nat) : Int).toNat]? = some [a0, a1, a2, a3, a4, a5, a6] := by (rw [Int.toNat_natCast]; exact hx0)
    have htk : (xs.take i).length = i := by (rw [List.length_take]; omega)
    refine TC.region ?_
    refine TL.run1 (pure_indexAddr Ty.sl34 rfl rfl (by omega) hrow (List.cons_ne_nil _ _)) rfl ?_
    first | refine TL.run1 (pure_load Ty.agg74 rfl (.succ (.succ (.succ (.succ (.succ (.succ (.succ (.zero _))))))))) rfl ?_ | refine TL.run1 (pure_load_own Ty.agg74 rfl (by repeat (first | exact List.Mem.head _ | apply List.Mem.tail)) (by repeat (first | exact DropR.zero _ | apply DropR.succ)) (.succ (.succ (.succ (.succ (.succ (.succ (.succ (.zero _))))))))) rfl ?_
    refine TL.alloc Ty.zero74 rfl (fun g7 => ?_)
    refine TL.store rfl rfl (.agg _) Try.sizeOf74 rfl (by repeat (first | exact UpdR.here _ | apply UpdR.there)) (by repeat (first | exact PutR.nil _ | apply PutR.here | apply PutR.skip)) ?_
    refine TL.nil' ?_
    refine TC.region ?_
    refine TL.run1 (pure_move rfl) rfl ?_
    refine TL.run1 (pure_move rfl) rfl ?_
    first | refine TL.run1 (pure_load Ty.agg74 rfl (.succ (.succ (.succ (.succ (.succ (.succ (.succ (.zero _))))))))) rfl ?_ | refine TL.run1 (pure_load_own Ty.agg74 rfl (by repeat (first | exact List.Mem.head _ | apply List.Mem.tail)) (by repeat (first | exact DropR.zero _ | apply DropR.succ)) (.succ (.succ (.succ (.succ (.succ (.succ (.succ (.zero _))))))))) rfl ?_
    refine TL.run1 (pure_callv rfl (hfx) (.cons rfl .nil) Try.call65) rfl ?_
    refine TL.run1 (pure_buildSlice (xs := [.tmp 17]) Ty.app34 (by decide) rfl rfl (.cons rfl (.agg _) rfl .nil)) rfl ?_
    refine TL.append Ty.app34 rfl rfl (by intro _; repeat (first | exact UpdR.here _ | apply UpdR.there)) (by simp only [List.length_append, List.length_cons, List.length_nil]; omega) (by simp only [List.length_append, List.length_cons, List.length_nil]; omega) rfl (fun v19 hv19 => ?_)
    refine TL.run1 (pure_assign rfl) rfl ?_
    refine TL.nil ?_
    refine block_normal ?_
    refine then_normal ?_
    refine TC.region ?_
    refine TL.run1 (pure_add rfl rfl (mkI64 (by omega) (by omega))) rfl ?_
    refine TL.run1 (pure_move rfl) rfl ?_
    refine TL.nil ?_
    refine loop_next (i + 1, v19) ⟨by ((try dsimp only); rw [show (((i + 1 : Nat)) : Int) = (i : Int) + 1 by omega]; repeat (first | exact Agree.nil | refine Agree.cons rfl ?_)), by (try dsimp only); rw [take_next hx0]; repeat (first | exact List.nil_sublist _ | exact List.Sublist.refl _ | apply List.Sublist.cons_cons | apply List.Sublist.cons)⟩ (show i + 1 ≤ _ by omega) (by (try dsimp only); omega)
  · try dsimp only at hc11
    refine TC.exit ?_
    refine then_exit ?_
    refine loop_exit ?_
    refine block_here ?_
    refine then_normal ?_
    refine TC.seq ?_
    refine TC.region ?_
    refine TL.run1 (pure_move rfl) rfl ?_
    refine TL.run1 (pure_assign rfl) rfl ?_
    refine TL.nil' ?_
    refine TC.ret ?_
    have hie : i = xs.length := by omega
    subst hie
    rw [List.take_length]
    exact retRow rfl (by repeat (first | exact List.Mem.head _ | apply List.Mem.tail)) rfl
set_option maxRecDepth 100000 in
theorem CloneFlow_spec (xs : List (List D)) (hx : SlB 11 176 xs) (hf : ∀ x ∈ xs, Fun Try.prog 86 [.agg x] (.agg x)) : Fun Try.prog 75 [.sl 11 xs] (.sl 11 xs) := by
  refine Fun.enter (n := 5) (rs := [.tmp 2]) Try.func75 rfl Try.ntmps75 Try.results75 rfl (fun w F => ?_)
  refine TC.seq ?_
  refine TC.region ?_
  refine TL.run1 (pure_assign rfl) rfl ?_
  refine TL.nil' ?_
  refine TC.seq ?_
  refine TC.region ?_
  refine TL.run1 (pure_move rfl) rfl ?_
  refine TL.run1 (pure_call (eachItem_spec xs hx hf) (.cons rfl (.cons rfl .nil)) Try.call85) rfl ?_
  refine TL.run1 (pure_assign rfl) rfl ?_
  refine TL.nil' ?_
  refine TC.ret ?_
  exact ret_sl rfl rfl
set_option maxRecDepth 100000 in
theorem CloneCell_spec (I : List D → Prop) (hI : ∀ x, I x → Fun Try.prog 86 [.agg x] (.agg x)) (ds : List D) (h : CellB I ds) : Fun Try.prog 65 [.agg ds] (.agg ds) := by
  obtain ⟨id, hd, fl, rfl, h1, h2, h3⟩ := h
  obtain ⟨a0, a1, a2, a3, a4, rfl⟩ := len5 h1.len
  refine Fun.enterF (n := 12) (rs := [.cell 2 74]) Try.func65 rfl Try.ntmps65 Try.results65 rfl (fun w F => ?_)
  refine TC.seq ?_
  refine TC.region ?_
  refine TL.box rfl (.agg _) rfl (fun g1 => ?_)
  refine TL.alloc Ty.zero74 rfl (fun g2 => ?_)
  refine TL.nil' ?_
  refine TC.seq ?_
  refine TC.freezeBox 1 (List.cons_ne_nil _ _) (.there _ (.here _)) rfl ?_
  refine TC.drawTailN 9 Ty.follows (by kernel_rfl) (by kernel_rfl) ?_
  simp only [List.take_succ_cons, List.take_zero, List.drop_succ_cons, List.drop_zero]
  first | refine TD.run1 (pure_fieldAddr Ty.f74_0 rfl (.zero _) (List.cons_ne_nil _ _)) rfl ?_ | refine TD.run1 (pure_fieldAddr_own Ty.f74_0 rfl) rfl ?_
  first | refine TD.run1 (pure_load1 Ty.one3 rfl) rfl ?_ | refine TD.run1 (pure_load1_own Ty.one3 rfl (by repeat (first | exact List.Mem.head _ | apply List.Mem.tail)) (by repeat (first | exact DropR.zero _ | apply DropR.succ))) rfl ?_
  first | refine TD.run1 (pure_fieldAddr Ty.f74_1 rfl (.succ (.zero _)) (List.cons_ne_nil _ _)) rfl ?_ | refine TD.run1 (pure_fieldAddr_own Ty.f74_1 rfl) rfl ?_
  first | refine TD.run1 (pure_load Ty.agg33 rfl (.succ (.succ (.succ (.succ (.succ (.zero _))))))) rfl ?_ | refine TD.run1 (pure_load_own Ty.agg33 rfl (by repeat (first | exact List.Mem.head _ | apply List.Mem.tail)) (by repeat (first | exact DropR.zero _ | apply DropR.succ)) (.succ (.succ (.succ (.succ (.succ (.zero _))))))) rfl ?_
  refine TD.run1 (pure_call (CloneHead_spec _ h1) (.cons rfl .nil) Try.call63) rfl ?_
  first | refine TD.run1 (pure_fieldAddr Ty.f74_2 rfl (.succ (.succ (.succ (.succ (.succ (.succ (.zero _))))))) (List.cons_ne_nil _ _)) rfl ?_ | refine TD.run1 (pure_fieldAddr_own Ty.f74_2 rfl) rfl ?_
  first | refine TD.run1 (pure_load1 Ty.one72 rfl) rfl ?_ | refine TD.run1 (pure_load1_own Ty.one72 rfl (by repeat (first | exact List.Mem.head _ | apply List.Mem.tail)) (by repeat (first | exact DropR.zero _ | apply DropR.succ))) rfl ?_
  refine TD.run1 (pure_call (CloneFlow_spec fl h2 (fun x hx => hI x (h3 x hx))) (.cons rfl .nil) Try.call75) rfl ?_
  refine TD.run1 (pure_build Ty.pl74 Ty.zero74 (.cons rfl rfl (.one rfl) rfl (.here (.nil _)) (.cons rfl rfl (.agg _) rfl (.skip (.here (.here (.here (.here (.here (.nil _))))))) (.cons rfl rfl (.one rfl) rfl (.skip (.skip (.skip (.skip (.skip (.skip (.here (.nil _)))))))) (.nil _))))) rfl ?_
  refine TD.nil ?_
  show TL _ _ _ _ _ _
  refine TL.store rfl rfl (.agg _) Try.sizeOf74 rfl (by repeat (first | exact UpdR.here _ | apply UpdR.there)) (by repeat (first | exact PutR.nil _ | apply PutR.here | apply PutR.skip)) ?_
  refine TL.nil' ?_
  refine TC.ret ?_
  exact retF_cell (.inl rfl) Ty.agg74 rfl (by repeat (first | exact List.Mem.head _ | apply List.Mem.tail)) rfl (.same _)
set_option maxRecDepth 100000 in
theorem CloneRow_spec (I : List D → Prop) (hI : ∀ x, I x → Fun Try.prog 86 [.agg x] (.agg x)) (ds : List D) (h : RowB I ds) : Fun Try.prog 56 [.agg ds] (.agg ds) := by
  obtain ⟨hd, cs, rfl, h1, h2, h3⟩ := h
  obtain ⟨a0, a1, a2, a3, a4, rfl⟩ := len5 h1.len
  refine Fun.enterF (n := 10) (rs := [.cell 2 36]) Try.func56 rfl Try.ntmps56 Try.results56 rfl (fun w F => ?_)
  refine TC.seq ?_
  refine TC.region ?_
  refine TL.box rfl (.agg _) rfl (fun g1 => ?_)
  refine TL.alloc Ty.zero36 rfl (fun g2 => ?_)
  refine TL.nil' ?_
  refine TC.seq ?_
  refine TC.freezeBox 1 (List.cons_ne_nil _ _) (.there _ (.here _)) rfl ?_
  refine TC.drawTailN 7 Ty.follows (by kernel_rfl) (by kernel_rfl) ?_
  simp only [List.take_succ_cons, List.take_zero, List.drop_succ_cons, List.drop_zero]
  first | refine TD.run1 (pure_fieldAddr Ty.f36_0 rfl (.zero _) (List.cons_ne_nil _ _)) rfl ?_ | refine TD.run1 (pure_fieldAddr_own Ty.f36_0 rfl) rfl ?_
  first | refine TD.run1 (pure_load Ty.agg33 rfl (.succ (.succ (.succ (.succ (.succ (.zero _))))))) rfl ?_ | refine TD.run1 (pure_load_own Ty.agg33 rfl (by repeat (first | exact List.Mem.head _ | apply List.Mem.tail)) (by repeat (first | exact DropR.zero _ | apply DropR.succ)) (.succ (.succ (.succ (.succ (.succ (.zero _))))))) rfl ?_
  refine TD.run1 (pure_call (CloneHead_spec _ h1) (.cons rfl .nil) Try.call63) rfl ?_
  first | refine TD.run1 (pure_fieldAddr Ty.f36_1 rfl (.succ (.succ (.succ (.succ (.succ (.zero _)))))) (List.cons_ne_nil _ _)) rfl ?_ | refine TD.run1 (pure_fieldAddr_own Ty.f36_1 rfl) rfl ?_
  first | refine TD.run1 (pure_load1 Ty.one34 rfl) rfl ?_ | refine TD.run1 (pure_load1_own Ty.one34 rfl (by repeat (first | exact List.Mem.head _ | apply List.Mem.tail)) (by repeat (first | exact DropR.zero _ | apply DropR.succ))) rfl ?_
  refine TD.run1 (pure_call (eachCell_spec cs h2 (fun x hx => CloneCell_spec I hI x (h3 x hx))) (.cons rfl (.cons rfl .nil)) Try.call64) rfl ?_
  refine TD.run1 (pure_build Ty.pl36 Ty.zero36 (.cons rfl rfl (.agg _) rfl (.here (.here (.here (.here (.here (.nil _)))))) (.cons rfl rfl (.one rfl) rfl (.skip (.skip (.skip (.skip (.skip (.here (.nil _))))))) (.nil _)))) rfl ?_
  refine TD.nil ?_
  show TL _ _ _ _ _ _
  refine TL.store rfl rfl (.agg _) Try.sizeOf36 rfl (by repeat (first | exact UpdR.here _ | apply UpdR.there)) (by repeat (first | exact PutR.nil _ | apply PutR.here | apply PutR.skip)) ?_
  refine TL.nil' ?_
  refine TC.ret ?_
  exact retF_cell (.inl rfl) Ty.agg36 rfl (by repeat (first | exact List.Mem.head _ | apply List.Mem.tail)) rfl (.same _)
set_option maxRecDepth 100000 in
theorem CloneItem0_spec (a b c : Int) (s : ByteArray) (hd : List D) (fl rs : List (List D)) (h1 : HeadB hd) (h2 : SlB 11 176 fl) (h3 : SlB 6 112 rs) (hfl : ∀ x ∈ fl, Fun Try.prog 86 [.agg x] (.agg x)) (hrs : ∀ x ∈ rs, Fun Try.prog 56 [.agg x] (.agg x)) : Fun Try.prog 86 [.agg (.v (.int .i64 a) :: .v (.int .i64 b) :: .v (.int .i64 c) :: .v (.string s) :: (hd ++ [.sl 11 fl, .sl 6 rs]))] (.agg (.v (.int .i64 a) :: .v (.int .i64 b) :: .v (.int .i64 c) :: .v (.string s) :: (hd ++ [.sl 11 fl, .sl 6 rs]))) := by
  obtain ⟨a0, a1, a2, a3, a4, rfl⟩ := len5 h1.len
  refine Fun.enterF (n := 16) (rs := [.cell 2 115]) Try.func86 rfl Try.ntmps86 Try.results86 rfl (fun w F => ?_)
  refine TC.seq ?_
  refine TC.region ?_
  refine TL.box rfl (.agg _) rfl (fun g1 => ?_)
  refine TL.alloc Ty.zero115 rfl (fun g2 => ?_)
  refine TL.nil' ?_
  refine TC.seq ?_
  refine TC.drawSq 14 9 1 [10, 12] [Blk.box g1 115 [.v (.int .i64 a), .v (.int .i64 b), .v (.int .i64 c), .v (.string s), a0, a1, a2, a3, a4, .sl 11 fl, .sl 6 rs]] [] Ty.follows (by decide) rfl (by kernel_rfl) (by kernel_rfl) (by kernel_rfl) (by kernel_rfl) (SplitR.none _) ?_
  first | refine TD.run1 (pure_fieldAddr Ty.f115_4 rfl (.succ (.succ (.succ (.succ (.zero _))))) (List.cons_ne_nil _ _)) rfl ?_ | refine TD.run1 (pure_fieldAddr_own Ty.f115_4 rfl) rfl ?_
  first | refine TD.run1 (pure_load Ty.agg33 rfl (.succ (.succ (.succ (.succ (.succ (.zero _))))))) rfl ?_ | refine TD.run1 (pure_load_own Ty.agg33 rfl (by repeat (first | exact List.Mem.head _ | apply List.Mem.tail)) (by repeat (first | exact DropR.zero _ | apply DropR.succ)) (.succ (.succ (.succ (.succ (.succ (.zero _))))))) rfl ?_
  refine TD.run1 (pure_call (CloneHead_spec _ h1) (.cons rfl .nil) Try.call63) rfl ?_
  first | refine TD.run1 (pure_fieldAddr Ty.f115_5 rfl (.succ (.succ (.succ (.succ (.succ (.succ (.succ (.succ (.succ (.zero _)))))))))) (List.cons_ne_nil _ _)) rfl ?_ | refine TD.run1 (pure_fieldAddr_own Ty.f115_5 rfl) rfl ?_
  first | refine TD.run1 (pure_load1 Ty.one72 rfl) rfl ?_ | refine TD.run1 (pure_load1_own Ty.one72 rfl (by repeat (first | exact List.Mem.head _ | apply List.Mem.tail)) (by repeat (first | exact DropR.zero _ | apply DropR.succ))) rfl ?_
  refine TD.run1 (pure_call (CloneFlow_spec fl h2 hfl) (.cons rfl .nil) Try.call75) rfl ?_
  first | refine TD.run1 (pure_fieldAddr Ty.f115_6 rfl (.succ (.succ (.succ (.succ (.succ (.succ (.succ (.succ (.succ (.succ (.zero _))))))))))) (List.cons_ne_nil _ _)) rfl ?_ | refine TD.run1 (pure_fieldAddr_own Ty.f115_6 rfl) rfl ?_
  first | refine TD.run1 (pure_load1 Ty.one22 rfl) rfl ?_ | refine TD.run1 (pure_load1_own Ty.one22 rfl (by repeat (first | exact List.Mem.head _ | apply List.Mem.tail)) (by repeat (first | exact DropR.zero _ | apply DropR.succ))) rfl ?_
  refine TD.run1 (pure_call (eachRow_spec rs h3 hrs) (.cons rfl (.cons rfl .nil)) Try.call87) rfl ?_
  refine TD.nil ?_
  first | refine TD.run1 (pure_fieldAddr Ty.f115_4 rfl (.succ (.succ (.succ (.succ (.zero _))))) (List.cons_ne_nil _ _)) rfl ?_ | refine TD.run1 (pure_fieldAddr_own Ty.f115_4 rfl) rfl ?_
  refine TD.mute ?_
  first | refine TD.run1 (pure_fieldAddr Ty.f115_5 rfl (.succ (.succ (.succ (.succ (.succ (.succ (.succ (.succ (.succ (.zero _)))))))))) (List.cons_ne_nil _ _)) rfl ?_ | refine TD.run1 (pure_fieldAddr_own Ty.f115_5 rfl) rfl ?_
  refine TD.mute ?_
  first | refine TD.run1 (pure_fieldAddr Ty.f115_6 rfl (.succ (.succ (.succ (.succ (.succ (.succ (.succ (.succ (.succ (.succ (.zero _))))))))))) (List.cons_ne_nil _ _)) rfl ?_ | refine TD.run1 (pure_fieldAddr_own Ty.f115_6 rfl) rfl ?_
  refine TD.nil ?_
  refine ⟨⟨_, .right (.left .nil)⟩, fun s hs hb => ?_⟩
  simp only [List.mem_cons, List.not_mem_nil, or_false] at hs
  rcases hs with rfl | hs
  rotate_left
  · subst hs; exact absurd (hb 10 (by simp)) (by decide +kernel)
  refine ⟨_, rfl, rfl, fun E eF he hx0 => ?_⟩
  subst he
  refine TL.store ((hx0 (.tmp 12) (by simp [Op.operands, Call.operands])).trans rfl) ((hx0 (.tmp 5) (by simp [Op.operands, Call.operands])).trans rfl) (.agg _) Try.sizeOf33 rfl (by repeat (first | exact UpdR.here _ | apply UpdR.there)) (by repeat (first | exact PutR.nil _ | apply PutR.here | apply PutR.skip)) ?_
  refine TL.nil ⟨rfl, none, rfl, ?_⟩
  refine ⟨⟨_, SplitR.none _⟩, fun s hs hb => ?_⟩
  rw [show ([10, 12] : List Nat).erase 10 = [12] from rfl] at *
  simp only [List.mem_cons, List.not_mem_nil, or_false] at hs
  subst hs
  refine ⟨_, rfl, rfl, fun E eF he hx0 => ?_⟩
  subst he
  refine TL.store ((hx0 (.tmp 13) (by simp [Op.operands, Call.operands])).trans rfl) ((hx0 (.tmp 8) (by simp [Op.operands, Call.operands])).trans rfl) (.one rfl) Try.sizeOf72 rfl (by repeat (first | exact UpdR.here _ | apply UpdR.there)) (by repeat (first | exact PutR.nil _ | apply PutR.here | apply PutR.skip)) ?_
  refine TL.nil ⟨rfl, none, rfl, ?_⟩
  refine ⟨⟨_, SplitR.none _⟩, fun e he => ?_⟩
  subst he
  simp only [List.drop_succ_cons, List.drop_zero]
  refine TL.store rfl rfl (.one (by first | rfl | assumption)) Try.sizeOf22 rfl (by repeat (first | exact UpdR.here _ | apply UpdR.there)) (by repeat (first | exact PutR.nil _ | apply PutR.here | apply PutR.skip)) ?_
  refine TL.nil' ?_
  refine TC.seq ?_
  refine TC.region ?_
  first | refine TL.run1 (pure_load Ty.agg115 rfl (.succ (.succ (.succ (.succ (.succ (.succ (.succ (.succ (.succ (.succ (.succ (.zero _))))))))))))) rfl ?_ | refine TL.run1 (pure_load_own Ty.agg115 rfl (by repeat (first | exact List.Mem.head _ | apply List.Mem.tail)) (by repeat (first | exact DropR.zero _ | apply DropR.succ)) (.succ (.succ (.succ (.succ (.succ (.succ (.succ (.succ (.succ (.succ (.succ (.zero _))))))))))))) rfl ?_
  refine TL.store rfl rfl (.agg _) Try.sizeOf115 rfl (by repeat (first | exact UpdR.here _ | apply UpdR.there)) (by repeat (first | exact PutR.nil _ | apply PutR.here | apply PutR.skip)) ?_
  refine TL.nil' ?_
  refine TC.ret ?_
  exact retF_cell (.inl rfl) Ty.agg115 rfl (by repeat (first | exact List.Mem.head _ | apply List.Mem.tail)) rfl (.same _)
theorem CloneItem_spec : ∀ (n : Nat) (ds : List D), ItemB n ds → Fun Try.prog 86 [.agg ds] (.agg ds)
  | 0, _, h => h.elim
  | n + 1, _, ⟨a, b, c, s, hd, fl, rs, e, h1, h2, h3, h4, h5⟩ => by
    subst e
    exact CloneItem0_spec a b c s hd fl rs h1 h2 h3 (fun x hx => CloneItem_spec n x (h4 x hx)) (fun x hx => CloneRow_spec (ItemB n) (CloneItem_spec n) x (h5 x hx))
set_option maxRecDepth 100000 in
theorem CloneRowD_spec (I : List D → Prop) (hI : ∀ x, I x → Fun Try.prog 86 [.agg x] (.agg x)) (hd : List D) (cs : List (List D)) (h1 : HeadB hd) (h2 : SlB 7 120 cs) (h3 : ∀ x ∈ cs, CellB I x) : CallD Try.prog 56 [.agg (hd ++ [.sl 7 cs])] [] (fun r H' => ∃ v, r = .agg (hd ++ [.v v]) ∧ H' = [.row v 74 7 cs]) := by
  obtain ⟨a0, a1, a2, a3, a4, rfl⟩ := len5 h1.len
  refine CallD.enter (n := 10) (rs := [.cell 2 36]) Try.func56 rfl Try.ntmps56 Try.results56 rfl (fun w F => ?_)
  refine TC.seq ?_
  refine TC.region ?_
  refine TL.box rfl (.agg _) rfl (fun g1 => ?_)
  refine TL.alloc Ty.zero36 rfl (fun g2 => ?_)
  refine TL.nil' ?_
  refine TC.seq ?_
  refine TC.freezeBox 1 (List.cons_ne_nil _ _) (.there _ (.here _)) rfl ?_
  refine TC.drawSp 7 [5, 6] [] Ty.follows (by decide) (by kernel_rfl) (by kernel_rfl) (by kernel_rfl) ?_
  first | refine TD.run1 (pure_fieldAddr Ty.f36_0 rfl (.zero _) (List.cons_ne_nil _ _)) rfl ?_ | refine TD.run1 (pure_fieldAddr_own Ty.f36_0 rfl) rfl ?_
  first | refine TD.run1 (pure_load Ty.agg33 rfl (.succ (.succ (.succ (.succ (.succ (.zero _))))))) rfl ?_ | refine TD.run1 (pure_load_own Ty.agg33 rfl (by repeat (first | exact List.Mem.head _ | apply List.Mem.tail)) (by repeat (first | exact DropR.zero _ | apply DropR.succ)) (.succ (.succ (.succ (.succ (.succ (.zero _))))))) rfl ?_
  refine TD.run1 (pure_call (CloneHead_spec _ h1) (.cons rfl .nil) Try.call63) rfl ?_
  first | refine TD.run1 (pure_fieldAddr Ty.f36_1 rfl (.succ (.succ (.succ (.succ (.succ (.zero _)))))) (List.cons_ne_nil _ _)) rfl ?_ | refine TD.run1 (pure_fieldAddr_own Ty.f36_1 rfl) rfl ?_
  first | refine TD.run1 (pure_load1 Ty.one34 rfl) rfl ?_ | refine TD.run1 (pure_load1_own Ty.one34 rfl (by repeat (first | exact List.Mem.head _ | apply List.Mem.tail)) (by repeat (first | exact DropR.zero _ | apply DropR.succ))) rfl ?_
  refine TD.mute ?_
  refine TD.mute ?_
  refine TD.nil ?_
  refine ⟨⟨_, SplitR.none _⟩, fun s hs hb => ?_⟩
  simp only [List.mem_cons, List.not_mem_nil, or_false] at hs
  rcases hs with rfl | hs
  rotate_left
  · subst hs; exact absurd (hb 5 (by simp)) (by decide +kernel)
  refine ⟨_, rfl, rfl, fun E eF he hx0 => ?_⟩
  subst he
  refine TL.callD (SplitR.none _) (eachCellD_spec cs h2 (fun x hx => CloneCell_spec I hI x (h3 x hx))) (.cons ((hx0 (.tmp 7) (by simp [Op.operands, Call.operands])).trans rfl) (.cons rfl .nil)) Try.call64 (fun t ht => by cases ht; exact of_decide_eq_true rfl) ?_
  rintro r2 H2 ⟨v8, rfl, rfl⟩
  simp only [List.cons_append, List.nil_append]
  refine TL.nil ⟨rfl, _, rfl, ?_⟩
  refine ⟨⟨_, SplitR.none _⟩, fun s hs hb => ?_⟩
  rw [show ([5, 6] : List Nat).erase 5 = [6] from rfl] at *
  simp only [List.mem_cons, List.not_mem_nil, or_false] at hs
  subst hs
  refine ⟨_, rfl, rfl, fun E eF he hx0 => ?_⟩
  subst he
  refine TL.rowOne (by repeat (first | exact List.Mem.head _ | apply List.Mem.tail)) (fun hv8 => ?_); refine TL.run1 (pure_build Ty.pl36 Ty.zero36 (.cons rfl ((hx0 (.tmp 5) (by simp [Op.operands, Call.operands])).trans rfl) (.agg _) rfl (.here (.here (.here (.here (.here (.nil _)))))) (.cons rfl ((hx0 (.tmp 8) (by simp [Op.operands, Call.operands])).trans rfl) (.one hv8) rfl (.skip (.skip (.skip (.skip (.skip (.here (.nil _))))))) (.nil _)))) rfl ?_
  refine TL.nil ⟨rfl, _, rfl, ?_⟩
  refine ⟨⟨_, SplitR.none _⟩, fun e he => ?_⟩
  subst he
  simp only [List.drop_succ_cons, List.drop_zero]
  refine TL.store rfl rfl (.agg _) Try.sizeOf36 rfl (by repeat (first | exact UpdR.here _ | apply UpdR.there)) (by repeat (first | exact PutR.nil _ | apply PutR.here | apply PutR.skip)) ?_
  refine TL.nil' ?_
  refine TC.ret ?_
  exact ⟨.inl rfl, [.agg [a0, a1, a2, a3, a4, .v v8]], .cell Ty.agg36 rfl (by repeat (first | exact List.Mem.head _ | apply List.Mem.tail)) rfl .nil, [Blk.row v8 74 7 cs], by repeat (first | exact List.nil_sublist _ | exact List.Sublist.refl _ | apply List.Sublist.cons_cons | apply List.Sublist.cons), v8, rfl, rfl⟩
end Go.Ob
set_option linter.unusedVariables false
set_option linter.unusedSimpArgs false
namespace Go.Ob
open Go.Proofs
def lookP : List (Int × Int) → Int → Option Int
  | [], _ => none
  | p :: l, k => if p.1 = k then some p.2 else lookP l k
theorem lookP_cons (p : Int × Int) (l : List (Int × Int)) (k : Int) : lookP (p :: l) k = if p.1 = k then some p.2 else lookP l k := rfl
theorem lookP_none : ∀ (l : List (Int × Int)) (k : Int), (∀ p ∈ l, p.1 ≠ k) → lookP l k = none
  | [], _, _ => rfl
  | p :: l, k, h => by rw [lookP, if_neg (h p (by simp)), lookP_none l k fun q hq => h q (by simp [hq])]
theorem lookP_append : ∀ (a b : List (Int × Int)) (k : Int), lookP (a ++ b) k = (lookP a k).or (lookP b k)
  | [], _, _ => by simp [lookP]
  | p :: a, b, k => by
    rw [List.cons_append, lookP, lookP]
    split
    · simp
    · exact lookP_append a b k
theorem Inc.cons {k : Int} {l : List (Int × Int)} {v : Int} : Inc (keysP ((k, v) :: l)) ↔ (∀ p ∈ l, k < p.1) ∧ Inc (keysP l) := by
  unfold Inc keysP
  rw [List.map_cons, List.pairwise_cons]
  simp
theorem Inc.cons' {p : Int × Int} {l : List (Int × Int)} : Inc (keysP (p :: l)) ↔ (∀ q ∈ l, p.1 < q.1) ∧ Inc (keysP l) := Inc.cons
theorem Inc.append {a b : List (Int × Int)} : Inc (keysP (a ++ b)) ↔ Inc (keysP a) ∧ Inc (keysP b) ∧ ∀ p ∈ a, ∀ q ∈ b, p.1 < q.1 := by
  unfold Inc keysP
  rw [List.map_append, List.pairwise_append]
  simp
theorem lookP_gt {l : List (Int × Int)} {k : Int} (h : ∀ p ∈ l, k < p.1) : lookP l k = none := lookP_none l k fun p hp => by have := h p hp; omega
theorem lookP_ext : ∀ (a b : List (Int × Int)), Inc (keysP a) → Inc (keysP b) → (∀ k, lookP a k = lookP b k) → a = b
  | [], [], _, _, _ => rfl
  | [], y :: b, _, _, h => by have := h y.1; simp [lookP] at this
  | x :: a, [], _, _, h => by have := h x.1; simp [lookP] at this
  | x :: a, y :: b, ha, hb, h => by
    obtain ⟨ha1, ha2⟩ := Inc.cons'.1 ha
    obtain ⟨hb1, hb2⟩ := Inc.cons'.1 hb
    rcases Int.lt_trichotomy x.1 y.1 with hlt | heq | hgt
    · have := h x.1
      rw [lookP, if_pos rfl, lookP, if_neg (by omega), lookP_gt fun p hp => by have := hb1 p hp; omega] at this
      cases this
    · have h1 := h x.1
      rw [lookP, if_pos rfl, lookP, if_pos heq.symm] at h1
      have e : x = y := Prod.ext heq (Option.some.inj h1)
      subst e
      rw [lookP_ext a b ha2 hb2 fun k => by
        by_cases hk : x.1 = k
        · subst hk; rw [lookP_gt ha1, lookP_gt hb1]
        · have := h k; rwa [lookP, if_neg hk, lookP, if_neg hk] at this]
    · have := h y.1
      rw [lookP, if_neg (by omega), lookP_gt fun p hp => by have := ha1 p hp; omega] at this
      rw [lookP, if_pos rfl] at this
      cases this
theorem drop_P (l : List (Int × Int)) (i : Int) (h0 : 0 ≤ i) (h1 : i < l.length) : l.drop i.toNat = pAt l i :: l.drop (i + 1).toNat := by
  have hl : i.toNat < l.length := by omega
  rw [List.drop_eq_getElem_cons hl, show (i + 1).toNat = i.toNat + 1 by omega]
  simp [pAt, hl]
def clearP (l : List (Int × Int)) (key : Int) : List (Int × Int) := l.filter fun p => decide (p.1 ≠ key)
def setP (l : List (Int × Int)) (key value : Int) : List (Int × Int) := (clearP l key).takeWhile (fun p => decide (p.1 < key)) ++ (key, value) :: (clearP l key).dropWhile (fun p => decide (p.1 < key))
theorem clearP_len (l : List (Int × Int)) (key : Int) : (clearP l key).length ≤ l.length := List.length_filter_le _ _
theorem setP_len (l : List (Int × Int)) (key value : Int) : (setP l key value).length ≤ l.length + 1 := by
  have h := congrArg List.length (List.takeWhile_append_dropWhile (p := fun p => decide (p.1 < key)) (l := clearP l key))
  have h2 := clearP_len l key
  unfold setP
  simp only [List.length_append, List.length_cons] at h ⊢
  omega
theorem clearP_inc {l : List (Int × Int)} (h : Inc (keysP l)) (key : Int) : Inc (keysP (clearP l key)) := by
  unfold Inc keysP clearP at *
  exact List.Pairwise.sublist ((List.filter_sublist).map _) h
theorem clearP_look (l : List (Int × Int)) (key k : Int) : lookP (clearP l key) k = if k = key then none else lookP l k := by
  unfold clearP
  induction l with
  | nil => simp [lookP]
  | cons p l ih =>
    by_cases hp : p.1 = key
    · rw [List.filter_cons_of_neg (by simpa using hp), ih, lookP]
      by_cases hk : k = key
      · rw [if_pos hk, if_pos hk]
      · rw [if_neg hk, if_neg hk, if_neg (by omega)]
    · rw [List.filter_cons_of_pos (by simpa using hp), lookP, lookP, ih]
      by_cases hk : k = key
      · rw [if_neg (show ¬ p.1 = k by omega), if_pos hk, if_pos hk]
      · rw [if_neg hk, if_neg hk]
theorem drop_ge {l : List (Int × Int)} (h : Inc (keysP l)) (key : Int) : ∀ p ∈ l.dropWhile (fun p => decide (p.1 < key)), key ≤ p.1 := by
  induction l with
  | nil => simp
  | cons q l ih =>
    obtain ⟨h1, h2⟩ := Inc.cons'.1 h
    by_cases hq : q.1 < key
    · rw [List.dropWhile_cons_of_pos (by simpa using hq)]; exact ih h2
    · rw [List.dropWhile_cons_of_neg (by simpa using hq)]
      intro p hp
      rcases List.mem_cons.1 hp with rfl | hp
      · omega
      · have := h1 p hp; omega
theorem take_lt (key : Int) : ∀ (l : List (Int × Int)), ∀ p ∈ l.takeWhile (fun p => decide (p.1 < key)), p.1 < key
  | [] => by simp
  | q :: l => by
    by_cases hq : q.1 < key
    · rw [List.takeWhile_cons_of_pos (by simpa using hq)]
      intro p hp
      rcases List.mem_cons.1 hp with rfl | hp
      · exact hq
      · exact take_lt key l p hp
    · rw [List.takeWhile_cons_of_neg (by simpa using hq)]
      simp
theorem setP_inc {l : List (Int × Int)} (h : Inc (keysP l)) (key value : Int) : Inc (keysP (setP l key value)) := by
  have hc := clearP_inc h key
  have h1 := hc
  rw [← List.takeWhile_append_dropWhile (p := fun p => decide (p.1 < key)) (l := clearP l key)] at h1
  obtain ⟨i1, i2, i3⟩ := Inc.append.1 h1
  have hlt : ∀ p ∈ (clearP l key).takeWhile (fun p => decide (p.1 < key)), p.1 < key := take_lt key _
  have hgt : ∀ p ∈ (clearP l key).dropWhile (fun p => decide (p.1 < key)), key < p.1 := fun p hp => by
    have h2 := drop_ge hc key p hp
    have h3 : p ∈ clearP l key := (List.dropWhile_sublist _).subset hp
    have h4 : p.1 ≠ key := by simpa using (List.mem_filter.1 h3).2
    omega
  refine Inc.append.2 ⟨i1, Inc.cons.2 ⟨hgt, i2⟩, fun p hp q hq => ?_⟩
  rcases List.mem_cons.1 hq with rfl | hq
  · exact hlt p hp
  · exact i3 p hp q hq
theorem setP_look (l : List (Int × Int)) (key value k : Int) : lookP (setP l key value) k = if k = key then some value else lookP l k := by
  have hc : lookP ((clearP l key).takeWhile (fun p => decide (p.1 < key)) ++ (clearP l key).dropWhile (fun p => decide (p.1 < key))) k = lookP (clearP l key) k := by rw [List.takeWhile_append_dropWhile]
  unfold setP
  rw [lookP_append] at hc ⊢
  rw [clearP_look] at hc
  rw [lookP]
  by_cases hk : k = key
  · rw [if_pos hk] at hc ⊢
    rw [if_pos hk.symm]
    have : lookP ((clearP l key).takeWhile (fun p => decide (p.1 < key))) k = none := by
      cases h : lookP ((clearP l key).takeWhile (fun p => decide (p.1 < key))) k with
      | none => rfl
      | some x => rw [h] at hc; simp at hc
    rw [this]; rfl
  · rw [if_neg hk] at hc ⊢
    rw [if_neg (fun h => hk h.symm), hc]
theorem getP_look : ∀ (l : List (Int × Int)) (k d : Int), getP l k d = (lookP l k).getD d
  | [], _, _ => rfl
  | (k', v) :: l, k, d => by
    rw [getP, lookP]
    split
    · rfl
    · exact getP_look l k d
end Go.Ob
set_option linter.unusedVariables false
set_option linter.unusedSimpArgs false
namespace Go.Ob
open Go.Proofs
theorem lb_split (l : List (Int × Int)) (h : Inc (keysP l)) (key : Int) : (∀ p ∈ l.take (lbI (keysP l) key), p.1 < key) ∧ (∀ p ∈ l.drop (lbI (keysP l) key), key ≤ p.1) := by
  have e : lbI (keysP l) key = (l.takeWhile (fun p => decide (p.1 < key))).length := by
    unfold lbI keysP
    rw [List.takeWhile_map, List.length_map]
    rfl
  have e1 : l.take (lbI (keysP l) key) = l.takeWhile (fun p => decide (p.1 < key)) := by
    rw [e]
    exact (List.prefix_iff_eq_take.1 (List.takeWhile_prefix _)).symm
  have e2 : l.drop (lbI (keysP l) key) = l.dropWhile (fun p => decide (p.1 < key)) := by
    have h1 := List.takeWhile_append_dropWhile (p := fun p => decide (p.1 < key)) (l := l)
    have h2 := List.take_append_drop (lbI (keysP l) key) l
    rw [e1] at h2
    exact List.append_cancel_left (h2.trans h1.symm)
  exact ⟨by rw [e1]; exact take_lt key l, by rw [e2]; exact drop_ge h key⟩
def setB (l : List (Int × Int)) (key value : Int) : List (Int × Int) :=
  if inI (keysP l) key = true then l.set (lbI (keysP l) key) (key, value) else l.take (lbI (keysP l) key) ++ (key, value) :: l.drop (lbI (keysP l) key)
def clearB (l : List (Int × Int)) (key : Int) : List (Int × Int) :=
  if inI (keysP l) key = true then l.take (lbI (keysP l) key) ++ l.drop (lbI (keysP l) key + 1) else l
theorem in_at {l : List (Int × Int)} {key : Int} (hi : inI (keysP l) key = true) : lbI (keysP l) key < l.length ∧ (pAt l (lbI (keysP l) key)).1 = key := by
  have h := of_decide_eq_true hi
  rw [keysP_len] at h
  refine ⟨h.1, ?_⟩
  have := h.2
  rwa [kAt_keysP _ _ h.1] at this
theorem mid_inc {A B : List (Int × Int)} {key value : Int} (h : Inc (keysP (A ++ B))) (hA : ∀ p ∈ A, p.1 < key) (hB : ∀ p ∈ B, key < p.1) : Inc (keysP (A ++ (key, value) :: B)) := by
  obtain ⟨i1, i2, i3⟩ := Inc.append.1 h
  refine Inc.append.2 ⟨i1, Inc.cons.2 ⟨hB, i2⟩, fun p hp q hq => ?_⟩
  rcases List.mem_cons.1 hq with rfl | hq
  · exact hA p hp
  · exact i3 p hp q hq
theorem parts {l : List (Int × Int)} (h : Inc (keysP l)) (key : Int) : (inI (keysP l) key = true → ∃ A B v, l = A ++ (key, v) :: B ∧ A.length = lbI (keysP l) key ∧ (∀ p ∈ A, p.1 < key) ∧ ∀ p ∈ B, key < p.1) ∧
    (inI (keysP l) key = false → ∃ A B, l = A ++ B ∧ A.length = lbI (keysP l) key ∧ (∀ p ∈ A, p.1 < key) ∧ ∀ p ∈ B, key < p.1) := by
  obtain ⟨h1, h2⟩ := lb_split l h key
  have hl := lbI_le (keysP l) key
  rw [keysP_len] at hl
  constructor
  · intro hi
    obtain ⟨a, b⟩ := in_at hi
    have hd := drop_P l (lbI (keysP l) key) (by omega) (by omega)
    rw [show ((lbI (keysP l) key : Nat) : Int).toNat = lbI (keysP l) key by omega, show ((lbI (keysP l) key : Int) + 1).toNat = lbI (keysP l) key + 1 by omega] at hd
    have hl2 : l = l.take (lbI (keysP l) key) ++ pAt l (lbI (keysP l) key) :: l.drop (lbI (keysP l) key + 1) := by rw [← hd, List.take_append_drop]
    refine ⟨l.take (lbI (keysP l) key), l.drop (lbI (keysP l) key + 1), (pAt l (lbI (keysP l) key)).2, ?_, by rw [List.length_take]; omega, h1, fun p hp => ?_⟩
    · have eb : (key, (pAt l (lbI (keysP l) key)).2) = pAt l (lbI (keysP l) key) := Prod.ext b.symm rfl
      rw [eb]; exact hl2
    · rw [hl2] at h
      have := (Inc.cons'.1 (Inc.append.1 h).2.1).1 p hp
      omega
  · intro hi
    refine ⟨l.take (lbI (keysP l) key), l.drop (lbI (keysP l) key), (List.take_append_drop _ _).symm, by rw [List.length_take]; omega, h1, fun p hp => ?_⟩
    have h3 := h2 p hp
    rcases Int.lt_or_eq_of_le h3 with h | he
    · exact h
    · exfalso
      have hn := of_decide_eq_false hi
      rw [keysP_len] at hn
      obtain ⟨j, hj, rfl⟩ := List.getElem_of_mem hp
      rw [List.length_drop] at hj
      rw [List.getElem_drop] at he
      have hlt : lbI (keysP l) key < l.length := by omega
      refine hn ⟨hlt, ?_⟩
      rw [kAt_keysP _ _ hlt]
      have hge := h2 (l[lbI (keysP l) key]) (by rw [List.drop_eq_getElem_cons hlt]; exact List.mem_cons_self)
      have e1 : pAt l (lbI (keysP l) key) = l[lbI (keysP l) key] := by simp [pAt, hlt]
      rw [e1]
      rcases Nat.eq_zero_or_pos j with rfl | hj0
      · exact he.symm
      · have h5 := Inc.lt (ks := keysP l) (i := lbI (keysP l) key) (j := lbI (keysP l) key + j) (by assumption) (by omega) (by rw [keysP_len]; omega)
        rw [kAt_keysP _ _ hlt, kAt_keysP _ _ (by omega), e1] at h5
        have e2 : pAt l ((lbI (keysP l) key + j : Nat) : Int) = l[lbI (keysP l) key + j] := by
          unfold pAt
          rw [Int.toNat_natCast]
          simp [show lbI (keysP l) key + j < l.length by omega]
        rw [e2] at h5
        omega
theorem setB_eq {l : List (Int × Int)} (h : Inc (keysP l)) (key value : Int) : setB l key value = setP l key value := by
  obtain ⟨p1, p2⟩ := parts h key
  have hs := setP_inc h key value
  unfold setB
  cases hi : inI (keysP l) key with
  | true =>
    obtain ⟨A, B, v, e, ea, hA, hB⟩ := p1 hi
    rw [if_pos rfl, ← ea]
    have e1 : l.set A.length (key, value) = A ++ (key, value) :: B := by rw [e]; simp
    rw [e1]
    rw [e] at h
    obtain ⟨i1, i2, i3⟩ := Inc.append.1 h
    refine lookP_ext _ _ (mid_inc (Inc.append.2 ⟨i1, (Inc.cons.1 i2).2, fun p hp q hq => i3 p hp q (by simp [hq])⟩) hA hB) hs fun k => ?_
    rw [setP_look, e, lookP_append, lookP_append, lookP_cons, lookP_cons]
    by_cases hk : k = key
    · rw [if_pos hk, hk, lookP_none A key fun p hp => by have := hA p hp; omega]; simp
    · rw [if_neg hk, if_neg (fun h => hk h.symm), if_neg (fun h => hk h.symm)]
  | false =>
    obtain ⟨A, B, e, ea, hA, hB⟩ := p2 hi
    rw [if_neg (by simp), ← ea]
    have e1 : l.take A.length ++ (key, value) :: l.drop A.length = A ++ (key, value) :: B := by rw [e]; simp
    rw [e1]
    rw [e] at h
    refine lookP_ext _ _ (mid_inc h hA hB) hs fun k => ?_
    rw [setP_look, e, lookP_append, lookP_append, lookP_cons]
    by_cases hk : k = key
    · rw [if_pos hk, hk, lookP_none A key fun p hp => by have := hA p hp; omega]; simp
    · rw [if_neg hk, if_neg (fun h => hk h.symm)]
theorem clearB_eq {l : List (Int × Int)} (h : Inc (keysP l)) (key : Int) : clearB l key = clearP l key := by
  obtain ⟨p1, p2⟩ := parts h key
  have hs := clearP_inc h key
  unfold clearB
  cases hi : inI (keysP l) key with
  | true =>
    obtain ⟨A, B, v, e, ea, hA, hB⟩ := p1 hi
    rw [if_pos rfl, ← ea]
    have e1 : l.take A.length ++ l.drop (A.length + 1) = A ++ B := by rw [e]; simp
    rw [e1]
    rw [e] at h
    obtain ⟨i1, i2, i3⟩ := Inc.append.1 h
    refine lookP_ext _ _ (Inc.append.2 ⟨i1, (Inc.cons.1 i2).2, fun p hp q hq => i3 p hp q (by simp [hq])⟩) hs fun k => ?_
    rw [clearP_look, e, lookP_append, lookP_append, lookP_cons]
    by_cases hk : k = key
    · rw [if_pos hk, hk, lookP_none A key (fun p hp => by have := hA p hp; omega), lookP_none B key (fun p hp => by have := hB p hp; omega)]; rfl
    · rw [if_neg hk, if_neg (fun h => hk h.symm)]
  | false =>
    obtain ⟨A, B, e, ea, hA, hB⟩ := p2 hi
    rw [if_neg (by simp)]
    refine lookP_ext _ _ h hs fun k => ?_
    rw [clearP_look]
    by_cases hk : k = key
    · rw [if_pos hk, hk, e, lookP_append, lookP_none A key (fun p hp => by have := hA p hp; omega), lookP_none B key (fun p hp => by have := hB p hp; omega)]; rfl
    · rw [if_neg hk]
theorem encP_take (l : List (Int × Int)) (n : Nat) : (encP l).take n = encP (l.take n) := by simp [encP]
theorem encP_drop (l : List (Int × Int)) (n : Nat) : (encP l).drop n = encP (l.drop n) := by simp [encP]
theorem encP_append (a b : List (Int × Int)) : encP (a ++ b) = encP a ++ encP b := by simp [encP]
end Go.Ob
set_option linter.unusedVariables false
set_option linter.unusedSimpArgs false
namespace Go.Ob
open Go.Proofs
theorem ins_grow {α : Type} (X : List α) (i n : Nat) (hn : n = X.length) (hi : i < n) (kv z : α) :
    ((((X.take i ++ List.replicate (n + 1 - i) z).take i ++ [kv] ++ (X.take i ++ List.replicate (n + 1 - i) z).drop (i + [kv].length)).take (i + 1) ++ (X.drop i).take (n - i) ++ ((X.take i ++ List.replicate (n + 1 - i) z).take i ++ [kv] ++ (X.take i ++ List.replicate (n + 1 - i) z).drop (i + [kv].length)).drop (i + 1 + ((X.drop i).take (n - i)).length))) = X.take i ++ [kv] ++ X.drop i := by
  have l1 : (X.take i).length = i := by rw [List.length_take]; omega
  have e1 : (X.take i ++ List.replicate (n + 1 - i) z).take i = X.take i := by
    rw [List.take_append, l1, List.take_of_length_le (by omega), Nat.sub_self, List.take_zero, List.append_nil]
  have e2 : (X.take i ++ List.replicate (n + 1 - i) z).drop (i + [kv].length) = List.replicate (n - i) z := by
    rw [List.drop_append, l1, List.drop_eq_nil_of_le (by rw [l1]; simp), List.nil_append, List.length_singleton, List.drop_replicate]
    congr 1; omega
  have e3 : (X.drop i).take (n - i) = X.drop i := List.take_of_length_le (by rw [List.length_drop]; omega)
  have l2 : (X.take i ++ [kv]).length = i + 1 := by rw [List.length_append, l1]; rfl
  rw [e1, e2, e3]
  have e4 : (X.take i ++ [kv] ++ List.replicate (n - i) z).take (i + 1) = X.take i ++ [kv] := by
    rw [List.take_append, l2, List.take_of_length_le (by omega), Nat.sub_self, List.take_zero, List.append_nil]
  have e5 : (X.take i ++ [kv] ++ List.replicate (n - i) z).drop (i + 1 + (X.drop i).length) = [] := List.drop_eq_nil_of_le (by rw [List.length_append, l2, List.length_replicate, List.length_drop]; omega)
  rw [e4, e5, List.append_nil]
theorem ins_in {α : Type} (X : List α) (i n : Nat) (hn : n = X.length) (hi : i < n) (kv : α) :
    ((X.take (i + 1) ++ (X.drop i).take (n - i) ++ X.drop (i + 1 + ((X.drop i).take (n - i)).length)).take i ++ [kv] ++ (X.take (i + 1) ++ (X.drop i).take (n - i) ++ X.drop (i + 1 + ((X.drop i).take (n - i)).length)).drop (i + [kv].length)) = X.take i ++ [kv] ++ X.drop i := by
  have e3 : (X.drop i).take (n - i) = X.drop i := List.take_of_length_le (by rw [List.length_drop]; omega)
  have e5 : X.drop (i + 1 + (X.drop i).length) = [] := List.drop_eq_nil_of_le (by rw [List.length_drop]; omega)
  have l1 : (X.take (i + 1)).length = i + 1 := by rw [List.length_take]; omega
  rw [e3, e5, List.append_nil]
  have e1 : (X.take (i + 1) ++ X.drop i).take i = X.take i := by
    rw [List.take_append, List.take_take, l1, show min i (i + 1) = i by omega, show i - (i + 1) = 0 by omega, List.take_zero, List.append_nil]
  have e2 : (X.take (i + 1) ++ X.drop i).drop (i + [kv].length) = X.drop i := by
    rw [List.length_singleton, List.drop_append, l1, List.drop_eq_nil_of_le (by omega), Nat.sub_self, List.nil_append, List.drop_zero]
  rw [e1, e2]
theorem ins_len {α : Type} (X S : List α) (p n : Nat) (hn : n = max X.length (p + S.length)) (hp : p ≤ X.length) : n = (X.take p ++ S ++ X.drop (p + S.length)).length := by
  simp only [List.length_append, List.length_take, List.length_drop]; omega
set_option maxRecDepth 100000 in
theorem sClone_spec (l : List (Int × Int)) (hl : l.length ≤ 1000000) : CallD Try.prog 72 [.sl 2 (encP l)] [] (fun r H' => ∃ v, r = .v v ∧ H' = [.row v 77 2 (encP l)]) := by
  refine CallD.enter (n := 8) (rs := [.tmp 2]) Try.func72 rfl Try.ntmps72 Try.results72 rfl (fun w F => ?_)
  have hk := encP_len l
  refine TC.seq ?_; refine TC.region ?_; refine TL.run1 (pure_assign rfl) rfl ?_; refine TL.nil' ?_; refine TC.seq ?_; refine TC.seq ?_; refine TC.region ?_; refine TL.run1 (pure_move rfl) rfl ?_
  refine TL.eqlNil Try.underlying27 rfl rfl rfl (fun b hb => ?_)
  refine TL.nil' ?_
  first | refine TC.condD rfl (fun hc4 => ?_) (fun hc4 => ?_) | refine TC.condN rfl (fun hc4 => ?_) (fun hc4 => ?_) | refine TC.cond rfl (fun hc4 => ?_) (fun hc4 => ?_)
  · try dsimp only at hc4
    refine TC.nilrow 77 2 ?_; refine TC.seq ?_; refine TC.region ?_; refine TL.run1 (pure_assign rfl) rfl ?_; refine TL.nil' ?_; refine TC.ret ?_; refine then_ret ?_
    exact retRow rfl (by repeat (first | exact List.Mem.head _ | apply List.Mem.tail)) (hb hc4).symm
  · try dsimp only at hc4
    refine TC.skip' ?_; refine TC.seq ?_; refine TC.region ?_
    refine TL.buildRow (xs := []) (ys := []) Ty.app27 (by decide) rfl rfl .nil rfl (fun v5 hv5 => ?_)
    refine TL.run1 (pure_move rfl) rfl ?_
    refine TL.append Ty.app27 rfl rfl (by intro _; repeat (first | exact UpdR.here _ | apply UpdR.there)) (by simp only [List.length_append, List.length_cons, List.length_nil]; omega) (by simp only [List.length_append, List.length_cons, List.length_nil]; omega) rfl (fun v7 hv7 => ?_)
    refine TL.run1 (pure_assign rfl) rfl ?_; refine TL.nil' ?_; refine TC.ret ?_
    exact retRow rfl (by repeat (first | exact List.Mem.head _ | apply List.Mem.tail)) rfl
set_option maxRecDepth 100000 in
theorem Clone_spec (l : List (Int × Int)) (hl : l.length ≤ 1000000) : CallD Try.prog 67 [.sl 2 (encP l)] [] (fun r H' => ∃ v, r = .v v ∧ H' = [.row v 77 2 (encP l)]) := by
  refine CallD.enter (n := 5) (rs := [.tmp 2]) Try.func67 rfl Try.ntmps67 Try.results67 rfl (fun w F => ?_)
  refine TC.seq ?_; refine TC.region ?_; refine TL.run1 (pure_assign rfl) rfl ?_; refine TL.nil' ?_; refine TC.seq ?_; refine TC.region ?_; refine TL.run1 (pure_move rfl) rfl ?_; refine TL.callD (H1 := []) (H2 := _) (SplitR.none _) (sClone_spec l hl) (.cons rfl .nil) Try.call72 (fun t ht => by cases ht; exact of_decide_eq_true rfl) ?_
  rintro r1 H1 ⟨v1, rfl, rfl⟩
  show TL _ _ _ _ _ [Blk.row v1 77 2 (encP l)]
  refine TL.run1 (pure_assign rfl) rfl ?_; refine TL.nil' ?_; refine TC.ret ?_
  exact retRow rfl (by repeat (first | exact List.Mem.head _ | apply List.Mem.tail)) rfl
set_option maxRecDepth 100000 in
theorem insertNil_spec (g2 c2 : Nat) (key value : Int) (hc2 : 1 ≤ c2) : CallD Try.prog 69 [.v (.slice none 0 0), .v (.int .i64 0), .v (RowV g2 1 c2)] [.row (RowV g2 1 c2) 77 2 [[D.v (.int .i64 key), .v (.int .i64 value)]], .row (.slice none 0 0) 77 2 []] (fun r H' => ∃ v, r = .v v ∧ H' = [.row v 77 2 ([[D.v (.int .i64 key), .v (.int .i64 value)]])]) := by
  refine CallD.enter (n := 95) (rs := [.tmp 6]) Try.func69 rfl Try.ntmps69 Try.results69 rfl (fun w F => ?_)
  refine TC.seq ?_; refine TC.region ?_; refine TL.run1 (pure_assign rfl) rfl ?_; refine TL.nil' ?_; refine TC.seq ?_; refine TC.region ?_; refine TL.run1 (pure_move rfl) rfl ?_; refine TL.run1 (pure_move rfl) rfl ?_; refine TL.run1 (pure_sliceNil Ty.sl27 rfl rfl) rfl ?_; refine TL.nil' ?_; refine TC.seq ?_; refine TC.region ?_; refine TL.run1 (pure_move rfl) rfl ?_; refine TL.run1 (pure_lenV Ty.sl27 rfl) rfl ?_; refine TL.run1 (pure_assign rfl) rfl ?_; refine TL.nil' ?_; refine TC.seq ?_; refine TC.seq ?_; refine TC.region ?_; refine TL.run1 (pure_move rfl) rfl ?_; refine TL.run1 (pure_eql rfl rfl) rfl ?_; refine TL.nil' ?_
  first | refine TC.condD rfl (fun hc16 => ?_) (fun hc16 => ?_) | refine TC.condN rfl (fun hc16 => ?_) (fun hc16 => ?_) | refine TC.cond rfl (fun hc16 => ?_) (fun hc16 => ?_)
  · try dsimp only at hc16
    exact absurd hc16 (by simp)
  · try dsimp only at hc16
    refine TC.skip' ?_; refine TC.seq ?_; refine TC.region ?_; refine TL.run1 (pure_move rfl) rfl ?_; refine TL.run1 (pure_len_nil Ty.sl27 rfl) rfl ?_; refine TL.run1 (pure_assign rfl) rfl ?_; refine TL.nil' ?_; refine TC.seq ?_; refine TC.seq ?_; refine TC.region ?_; refine TL.run1 (pure_move rfl) rfl ?_; refine TL.run1 (pure_move rfl) rfl ?_; refine TL.run1 (pure_eql rfl rfl) rfl ?_; refine TL.nil' ?_
    first | refine TC.condD rfl (fun hc22 => ?_) (fun hc22 => ?_) | refine TC.condN rfl (fun hc22 => ?_) (fun hc22 => ?_) | refine TC.cond rfl (fun hc22 => ?_) (fun hc22 => ?_)
    · try dsimp only at hc22
      refine TC.frz 2 [.row (.slice none 0 0) 77 2 []] (.cons _ (.cons_cons _ .slnil)) rfl (.rowS (v := RowV g2 1 c2) ⟨(by repeat (first | exact List.Mem.head _ | apply List.Mem.tail)), fun x hx => by rcases List.mem_singleton.1 hx with rfl; intro gg h1 h2; simp [Blk.blk, Value.ownBlock] at h2⟩ (by decide) (by simp)) ?_; refine TC.seq ?_; refine TC.region ?_; refine TL.run1 (pure_move rfl) rfl ?_; refine TL.run1 (pure_move rfl) rfl ?_
      refine TL.append (xs := []) (ys := [[D.v (.int .i64 key), .v (.int .i64 value)]]) Ty.app27 rfl rfl (by intro _; exact UpdR.here _) (by simp) (by simp) rfl (fun v25 hv25 => ?_)
      refine TL.run1 (pure_assign rfl) rfl ?_; refine TL.nil' ?_; refine TC.ret ?_; refine then_ret ?_
      exact retRow rfl (by repeat (first | exact List.Mem.head _ | apply List.Mem.tail)) rfl
    · try dsimp only at hc22
      exact absurd rfl hc22
set_option maxRecDepth 100000 in
theorem insert_spec (l : List (Int × Int)) (g n cap g2 c2 i : Nat) (key value : Int) (hn : n = l.length) (hcap : n ≤ cap) (hi : i ≤ n) (hgg : g ≠ g2) (hl : l.length ≤ 1000000) (hc2 : 1 ≤ c2) : CallD Try.prog 69 [.v (RowV g n cap), .v (.int .i64 (i : Int)), .v (RowV g2 1 c2)] [.row (RowV g2 1 c2) 77 2 [[D.v (.int .i64 key), .v (.int .i64 value)]], .row (RowV g n cap) 77 2 (encP l)] (fun r H' => ∃ v, r = .v v ∧ H' = [.row v 77 2 ((encP l).take i ++ [[D.v (.int .i64 key), .v (.int .i64 value)]] ++ (encP l).drop i)]) := by
  refine CallD.enter (n := 95) (rs := [.tmp 6]) Try.func69 rfl Try.ntmps69 Try.results69 rfl (fun w F => ?_)
  have hk := encP_len l
  refine TC.seq ?_; refine TC.region ?_; refine TL.run1 (pure_assign rfl) rfl ?_; refine TL.nil' ?_; refine TC.seq ?_; refine TC.region ?_; refine TL.run1 (pure_move rfl) rfl ?_; refine TL.run1 (pure_move rfl) rfl ?_; refine TL.run1 (pure_sliceV (l := i) (h := n) (m := cap) Ty.sl27 rfl rfl ⟨rfl, rfl⟩ rfl (by omega) (by omega) (by omega)) rfl ?_; refine TL.nil' ?_; refine TC.seq ?_; refine TC.region ?_; refine TL.run1 (pure_move rfl) rfl ?_; refine TL.run1 (pure_lenV Ty.sl27 rfl) rfl ?_; refine TL.run1 (pure_assign rfl) rfl ?_; refine TL.nil' ?_; refine TC.seq ?_; refine TC.seq ?_; refine TC.region ?_; refine TL.run1 (pure_move rfl) rfl ?_; refine TL.run1 (pure_eql rfl rfl) rfl ?_; refine TL.nil' ?_
  first | refine TC.condD rfl (fun hc16 => ?_) (fun hc16 => ?_) | refine TC.condN rfl (fun hc16 => ?_) (fun hc16 => ?_) | refine TC.cond rfl (fun hc16 => ?_) (fun hc16 => ?_)
  · try dsimp only at hc16
    exact absurd hc16 (by simp)
  · try dsimp only at hc16
    refine TC.skip' ?_; refine TC.seq ?_; refine TC.region ?_; refine TL.run1 (pure_move rfl) rfl ?_; refine TL.run1 (pure_lenV Ty.sl27 rfl) rfl ?_; refine TL.run1 (pure_assign rfl) rfl ?_; refine TL.nil' ?_; refine TC.seq ?_; refine TC.seq ?_; refine TC.region ?_; refine TL.run1 (pure_move rfl) rfl ?_; refine TL.run1 (pure_move rfl) rfl ?_; refine TL.run1 (pure_eql rfl rfl) rfl ?_; refine TL.nil' ?_
    first | refine TC.condD rfl (fun hc22 => ?_) (fun hc22 => ?_) | refine TC.condN rfl (fun hc22 => ?_) (fun hc22 => ?_) | refine TC.cond rfl (fun hc22 => ?_) (fun hc22 => ?_)
    · try dsimp only at hc22
      refine TC.frz 2 [.row (RowV g n cap) 77 2 (encP l)] (.cons _ (.cons_cons _ .slnil)) rfl (.rowS (v := RowV g2 1 c2) ⟨(by repeat (first | exact List.Mem.head _ | apply List.Mem.tail)), fun x hx => by rcases List.mem_singleton.1 hx with rfl; intro gg h1 h2; exact hgg (by simpa [Blk.blk, Value.ownBlock] using h2.trans h1.symm)⟩ (by decide) (by simp)) ?_; refine TC.seq ?_; refine TC.region ?_; refine TL.run1 (pure_move rfl) rfl ?_; refine TL.run1 (pure_move rfl) rfl ?_
      refine TL.append (v := RowV g n cap) (xs := (encP l)) (ys := [[D.v (.int .i64 key), .v (.int .i64 value)]]) Ty.app27 rfl rfl (by intro _; exact UpdR.here _) (by simp only [List.length_cons, List.length_nil]; omega) (by simp only [List.length_cons, List.length_nil]; omega) rfl (fun v25 hv25 => ?_)
      refine TL.run1 (pure_assign rfl) rfl ?_; refine TL.nil' ?_; refine TC.ret ?_; refine then_ret ?_
      exact retRow rfl (by repeat (first | exact List.Mem.head _ | apply List.Mem.tail)) (by rw [show i = (encP l).length by omega]; simp)
    · try dsimp only at hc22
      refine TC.skip' ?_; refine TC.seq ?_; refine TC.seq ?_; refine TC.region ?_; refine TL.run1 (pure_move rfl) rfl ?_; refine TL.run1 (pure_move rfl) rfl ?_; refine TL.run1 (pure_add rfl rfl (mkI64 (by omega) (by omega))) rfl ?_; refine TL.run1 (pure_move rfl) rfl ?_; refine TL.run1 (pure_cap Ty.sl27 rfl) rfl ?_; refine TL.run1 (pure_gtr rfl rfl) rfl ?_; refine TL.nil' ?_
      first | refine TC.condD rfl (fun hc31 => ?_) (fun hc31 => ?_) | refine TC.condN rfl (fun hc31 => ?_) (fun hc31 => ?_) | refine TC.cond rfl (fun hc31 => ?_) (fun hc31 => ?_)
      · try dsimp only at hc31
        refine TC.seq ?_; refine TC.region ?_; refine TL.run1 (pure_move rfl) rfl ?_; refine TL.run1 (pure_move rfl) rfl ?_; refine TL.run1 (pure_sliceV (l := 0) (h := i) (m := cap) Ty.sl27 rfl rfl rfl rfl (by omega) (by omega) (by omega)) rfl ?_; refine TL.run1 (pure_move rfl) rfl ?_; refine TL.run1 (pure_move rfl) rfl ?_; refine TL.run1 (pure_add rfl rfl (mkI64 (by omega) (by omega))) rfl ?_; refine TL.run1 (pure_move rfl) rfl ?_; refine TL.run1 (pure_sub rfl rfl (mkI64 (by omega) (by omega))) rfl ?_
        refine TL.appendZeros (g := g) (p := i) (zc := n + 1 - i) (n := n) (cap := cap) (xs := (encP l)) Ty.app27 Try.underlying3 Ty.zero77 rfl (show some _ = some _ from by rw [ite_self]; rfl) (castI (by omega)) (by repeat (first | exact List.Mem.head _ | apply List.Mem.tail)) (by omega) (by omega) (by omega) (by omega) rfl (fun g3 c3 hg3 => ?_)
        rw [show i + (n + 1 - i) = n + 1 by omega] at hg3 ⊢
        refine TL.run1 (pure_assign rfl) rfl ?_; refine TL.nil' ?_; refine TC.seq ?_; refine TC.region ?_; refine TL.run1 (pure_move rfl) rfl ?_; refine TL.run1 (pure_move rfl) rfl ?_; refine TL.run1 (pure_sliceV (l := i) (h := n + 1) (m := c3) Ty.sl27 rfl rfl ⟨rfl, rfl⟩ rfl (by omega) (by omega) (by omega)) rfl ?_
        rw [if_neg (show ¬ c3 = i by omega)]
        refine TL.run1 (pure_move rfl) rfl ?_; refine TL.copyRow (p := i) (k := 1) (n := n + 1) (n' := n + 1) (cap := c3) (xs := (encP l).take i ++ List.replicate (n + 1 - i) [.v (.int .i64 0), .v (.int .i64 0)]) (src := [[D.v (.int .i64 key), .v (.int .i64 value)]]) Ty.app27 rfl (by omega) (.part (b := 0) (k := 1) (xs := [[D.v (.int .i64 key), .v (.int .i64 value)]]) (n := 1) rfl (by repeat (first | exact List.Mem.head _ | apply List.Mem.tail)) (by omega) (by simp) (by omega)) (by (show 1 = min _ _); omega) (by repeat (first | exact UpdR.here _ | apply UpdR.there)) (ins_len _ _ _ _ (by simp only [List.length_append, List.length_take, List.length_replicate, List.length_cons, List.length_nil]; omega) (by simp only [List.length_append, List.length_take, List.length_replicate]; omega)) (by simp only [List.length_append, List.length_take, List.length_replicate]; omega) (by simp only [List.length_cons, List.length_nil]; omega) rfl ?_; refine TL.nil' ?_; refine TC.seq ?_; refine TC.drawTailN 8 Ty.follows (by kernel_rfl) (by kernel_rfl) ?_
        simp only [List.take_succ_cons, List.take_zero, List.drop_succ_cons, List.drop_zero]
        refine TD.run1 (pure_move rfl) rfl ?_; refine TD.run1 (pure_move rfl) rfl ?_; refine TD.run1 (pure_move rfl) rfl ?_; refine TD.run1 (pure_add rfl rfl (mkI64 (by omega) (by omega))) rfl ?_; refine TD.run1 (pure_sliceV (l := i + 1) (h := n + 1) (m := c3) Ty.sl27 rfl (castI (by omega)) ⟨rfl, rfl⟩ rfl (by omega) (by omega) (by omega)) rfl ?_
        rw [if_neg (show ¬ c3 = i + 1 by omega)]
        refine TD.run1 (pure_move rfl) rfl ?_; refine TD.run1 (pure_move rfl) rfl ?_; refine TD.run1 (pure_sliceV (l := i) (h := n) (m := cap) Ty.sl27 rfl rfl ⟨rfl, rfl⟩ rfl (by omega) (by omega) (by omega)) rfl ?_
        rw [if_neg (show ¬ cap = i by omega)]
        refine TD.nil ?_
        show TL _ _ _ _ _ _
        refine TL.copyRow (p := i + 1) (k := n - i) (n' := n + 1) (cap := c3) (src := ((encP l).drop i).take (n - i)) Ty.app27 rfl (by omega) (.part (b := i) (k := n - i) (xs := (encP l)) (n := n) (cap := cap) rfl (by repeat (first | exact List.Mem.head _ | apply List.Mem.tail)) (by omega) (by omega) (by omega)) (by (show n - i = min _ _); omega) (by repeat (first | exact UpdR.here _ | apply UpdR.there)) (ins_len _ _ _ _ (by simp only [List.length_append, List.length_take, List.length_drop, List.length_replicate, List.length_cons, List.length_nil]; omega) (by simp only [List.length_append, List.length_take, List.length_drop, List.length_replicate, List.length_cons, List.length_nil]; omega)) (by simp only [List.length_append, List.length_take, List.length_drop, List.length_replicate, List.length_cons, List.length_nil]; omega) (by simp only [List.length_take, List.length_drop]; omega) rfl ?_; refine TL.nil' ?_; refine TC.seq ?_; refine TC.region ?_; refine TL.run1 (pure_move rfl) rfl ?_; refine TL.run1 (pure_assign rfl) rfl ?_; refine TL.nil' ?_; refine TC.ret ?_; refine then_ret ?_
        exact retRow (e := 77) (es := 2) rfl (by repeat (first | exact List.Mem.head _ | apply List.Mem.tail)) (ins_grow (encP l) i n (by omega) (by omega) _ [.v (.int .i64 0), .v (.int .i64 0)])
      · try dsimp only at hc31
        refine TC.skip' ?_; refine TC.seq ?_
        have hroom : n + 1 ≤ cap := by omega
        refine TC.region ?_; refine TL.run1 (pure_move rfl) rfl ?_; refine TL.run1 (pure_move rfl) rfl ?_; refine TL.run1 (pure_move rfl) rfl ?_; refine TL.run1 (pure_add rfl rfl (mkI64 (by omega) (by omega))) rfl ?_; refine TL.run1 (pure_sliceV (l := 0) (h := n + 1) (m := cap) Ty.sl27 rfl rfl (castI (by omega)) rfl (by omega) (by omega) (by omega)) rfl ?_
        rw [ite_self]
        refine TL.run1 (pure_assign rfl) rfl ?_; refine TL.nil' ?_; refine TC.seq ?_; refine TC.seq ?_; refine TC.region ?_; refine TL.run1 (pure_move rfl) rfl ?_; refine TL.run1 (pure_move rfl) rfl ?_; refine TL.run1 (pure_move rfl) rfl ?_; refine TL.run1 (pure_move rfl) rfl ?_; refine TL.run1 (pure_add rfl rfl (mkI64 (by omega) (by omega))) rfl ?_; refine TL.run1 (pure_sliceV (l := i + 1) (h := n + 1) (m := cap) Ty.sl27 rfl (castI (by omega)) ⟨rfl, rfl⟩ rfl (by omega) (by omega) (by omega)) rfl ?_
        rw [if_neg (show ¬ cap = i + 1 by omega)]
        refine TL.overlaps (g1 := g2) (n1 := 1) (cap1 := c2) (g2 := g) (n2 := n) (cap2 := cap) (H1 := [.row (RowV g2 1 c2) 77 2 [[D.v (.int .i64 key), .v (.int .i64 value)]]]) (H2 := [.row (RowV g n cap) 77 2 (encP l)]) Ty.sl27 (fun aa w v h => by rw [run_callFunc_extern Try.func79 (by kernel_rfl) (by kernel_rfl) (by kernel_rfl) (e := Extern.SlicesOverlaps.overlaps #[27, 27] #[4]) (by kernel_rfl), h]; rfl) rfl rfl (.left (.right .nil)) (by repeat (first | exact List.Mem.head _ | apply List.Mem.tail)) (by repeat (first | exact List.Mem.head _ | apply List.Mem.tail)) (by omega) (by omega) rfl ?_; refine TL.run1 (pure_not rfl) rfl ?_; refine TL.nil' ?_
        first | refine TC.condD rfl (fun hc68 => ?_) (fun hc68 => ?_) | refine TC.condN rfl (fun hc68 => ?_) (fun hc68 => ?_) | refine TC.cond rfl (fun hc68 => ?_) (fun hc68 => ?_)
        · try dsimp only at hc68
          refine TC.seq ?_; refine TC.drawTailN 8 Ty.follows (by kernel_rfl) (by kernel_rfl) ?_
          simp only [List.take_succ_cons, List.take_zero, List.drop_succ_cons, List.drop_zero]
          refine TD.run1 (pure_move rfl) rfl ?_; refine TD.run1 (pure_move rfl) rfl ?_; refine TD.run1 (pure_move rfl) rfl ?_; refine TD.run1 (pure_add rfl rfl (mkI64 (by omega) (by omega))) rfl ?_; refine TD.run1 (pure_sliceV (l := i + 1) (h := n + 1) (m := cap) Ty.sl27 rfl (castI (by omega)) ⟨rfl, rfl⟩ rfl (by omega) (by omega) (by omega)) rfl ?_
          rw [if_neg (show ¬ cap = i + 1 by omega)]
          refine TD.run1 (pure_move rfl) rfl ?_; refine TD.run1 (pure_move rfl) rfl ?_; refine TD.run1 (pure_sliceV (l := i) (h := n + 1) (m := cap) Ty.sl27 rfl rfl ⟨rfl, rfl⟩ rfl (by omega) (by omega) (by omega)) rfl ?_
          rw [if_neg (show ¬ cap = i by omega)]
          refine TD.nil ?_
          show TL _ _ _ _ _ _
          refine TL.copyRow (p := i + 1) (k := n - i) (n' := n + 1) (cap := cap) (src := ((encP l).drop i).take (n - i)) Ty.app27 rfl (by omega) (.part (b := i) (k := n - i) (xs := (encP l)) (n := n) (cap := cap) rfl (by repeat (first | exact List.Mem.head _ | apply List.Mem.tail)) (by omega) (by omega) (by omega)) (by (show n - i = min _ _); omega) (by repeat (first | exact UpdR.here _ | apply UpdR.there)) (ins_len _ _ _ _ (by simp only [List.length_take, List.length_drop]; omega) (by omega)) (by omega) (by simp only [List.length_take, List.length_drop]; omega) rfl ?_; refine TL.nil' ?_; refine TC.seq ?_; refine TC.region ?_; refine TL.run1 (pure_move rfl) rfl ?_; refine TL.run1 (pure_move rfl) rfl ?_; refine TL.run1 (pure_sliceV (l := i) (h := n + 1) (m := cap) Ty.sl27 rfl rfl ⟨rfl, rfl⟩ rfl (by omega) (by omega) (by omega)) rfl ?_
          rw [if_neg (show ¬ cap = i by omega)]
          refine TL.run1 (pure_move rfl) rfl ?_; refine TL.copyRow (p := i) (k := 1) (n' := n + 1) (cap := cap) (src := [[D.v (.int .i64 key), .v (.int .i64 value)]]) Ty.app27 rfl (by omega) (.part (b := 0) (k := 1) (xs := [[D.v (.int .i64 key), .v (.int .i64 value)]]) (n := 1) rfl (by repeat (first | exact List.Mem.head _ | apply List.Mem.tail)) (by omega) (by simp) (by omega)) (by (show 1 = min _ _); omega) (by repeat (first | exact UpdR.here _ | apply UpdR.there)) (ins_len _ _ _ _ (by simp only [List.length_append, List.length_take, List.length_drop, List.length_cons, List.length_nil]; omega) (by simp only [List.length_append, List.length_take, List.length_drop]; omega)) (by simp only [List.length_append, List.length_take, List.length_drop]; omega) (by simp only [List.length_cons, List.length_nil]; omega) rfl ?_; refine TL.nil' ?_; refine TC.seq ?_; refine TC.region ?_; refine TL.run1 (pure_move rfl) rfl ?_; refine TL.run1 (pure_assign rfl) rfl ?_; refine TL.nil' ?_; refine TC.ret ?_; refine then_ret ?_
          exact retRow (e := 77) (es := 2) rfl (by repeat (first | exact List.Mem.head _ | apply List.Mem.tail)) (ins_in (encP l) i n (by omega) (by omega) _)
        · try dsimp only at hc68
          exact absurd hc68 (by simp)
theorem insertAny_spec (l : List (Int × Int)) (v v2 : Value) (i : Int) (key value : Int) (h0 : 0 ≤ i) (hi : i ≤ l.length) (hl : l.length ≤ 1000000) :
    CallD Try.prog 69 [.v v, .v (.int .i64 i), .v v2] [.row v2 77 2 [[D.v (.int .i64 key), .v (.int .i64 value)]], .row v 77 2 (encP l)] (fun r H' => ∃ v, r = .v v ∧ H' = [.row v 77 2 ((encP l).take i.toNat ++ [[D.v (.int .i64 key), .v (.int .i64 value)]] ++ (encP l).drop i.toNat)]) := by
  intro w F vs hvl hv hh hF
  obtain ⟨i, rfl⟩ : ∃ n : Nat, i = n := ⟨i.toNat, by omega⟩
  rw [Int.toNat_natCast]
  obtain ⟨vals2, hown2, _⟩ := row_ok hh (List.mem_cons_self : Blk.row v2 77 2 [[D.v (.int .i64 key), .v (.int .i64 value)]] ∈ _)
  obtain ⟨vals, hown, _⟩ := row_ok hh (List.mem_cons_of_mem _ List.mem_cons_self : Blk.row v 77 2 (encP l) ∈ _)
  rcases hown2.2 with ⟨_, hn2⟩ | ⟨g2, c2, cur2, rfl, _, hg2, hle2, _⟩
  · simp at hn2
  have hk := encP_len l
  rcases hown.2 with ⟨rfl, hn⟩ | ⟨g, cap, cur, rfl, _, hg, hle, _⟩
  · have hl0 : l = [] := List.length_eq_zero_iff.1 (by omega)
    subst hl0
    obtain rfl : i = 0 := by simp at hi; omega
    exact insertNil_spec g2 c2 key value (by simpa using hle2) w F vs hvl hv hh hF
  · have hne : g ≠ g2 := fun he => (List.pairwise_cons.1 hh.apart).1 _ List.mem_cons_self g2 rfl (by rw [← he]; rfl)
    exact insert_spec l g _ cap g2 c2 i key value (by omega) hle (by omega) hne hl (by simpa using hle2) w F vs hvl hv hh hF
end Go.Ob
set_option linter.unusedVariables false
set_option linter.unusedSimpArgs false
namespace Go.Ob
open Go.Proofs
theorem del_in {α : Type} (X : List α) (i n cap : Nat) (hn : n = X.length) (hi : i < n) (hc : n ≤ cap) (Z T : List α) (q : Nat) :
    (((X.take i ++ (X.drop (if cap = i + 1 then 0 else i + 1)).take (n - (i + 1)) ++ X.drop q).take (n - 1) ++ Z ++ T).take (n - 1)) = X.take i ++ X.drop (i + 1) := by
  have e1 : (X.drop (if cap = i + 1 then 0 else i + 1)).take (n - (i + 1)) = X.drop (i + 1) := by
    split
    · rw [show n - (i + 1) = 0 by omega, List.take_zero, List.drop_eq_nil_of_le (by omega)]
    · exact List.take_of_length_le (by rw [List.length_drop]; omega)
  have l1 : (X.take i ++ X.drop (i + 1)).length = n - 1 := by rw [List.length_append, List.length_take, List.length_drop]; omega
  rw [e1]
  have e2 : (X.take i ++ X.drop (i + 1) ++ X.drop q).take (n - 1) = X.take i ++ X.drop (i + 1) := by
    rw [List.take_append, l1, List.take_of_length_le (by omega), Nat.sub_self, List.take_zero, List.append_nil]
  rw [e2, List.append_assoc, List.take_append, l1, List.take_of_length_le (by omega), Nat.sub_self, List.take_zero, List.append_nil]
theorem encP_set (l : List (Int × Int)) (i : Nat) (k v : Int) : encP (l.set i (k, v)) = (encP l).set i [.v (.int .i64 k), .v (.int .i64 v)] := by simp [encP, List.map_set]
set_option maxRecDepth 100000 in
theorem delete_spec (l : List (Int × Int)) (g n cap i : Nat) (hn : n = l.length) (hcap : n ≤ cap) (hi : i < n) (hl : l.length ≤ 1000000) : CallD Try.prog 68 [.v (RowV g n cap), .v (.int .i64 (i : Int)), .v (.int .i64 ((i : Int) + 1))] [.row (RowV g n cap) 77 2 (encP l)] (fun r H' => ∃ v, r = .v v ∧ H' = [.row v 77 2 ((encP l).take i ++ (encP l).drop (i + 1))]) := by
  refine CallD.enter (n := 33) (rs := [.tmp 6]) Try.func68 rfl Try.ntmps68 Try.results68 rfl (fun w F => ?_)
  have hk := encP_len l
  refine TC.seq ?_; refine TC.region ?_; refine TL.run1 (pure_assign rfl) rfl ?_; refine TL.nil' ?_; refine TC.seq ?_; refine TC.region ?_; refine TL.run1 (pure_move rfl) rfl ?_; refine TL.run1 (pure_move rfl) rfl ?_; refine TL.run1 (pure_move rfl) rfl ?_; refine TL.run1 (pure_move rfl) rfl ?_; refine TL.run1 (pure_lenV Ty.sl27 rfl) rfl ?_; refine TL.run1 (pure_sliceV (l := i) (h := i + 1) (m := n) Ty.sl27 rfl rfl (castI (by omega)) rfl (by omega) (by omega) (by omega)) rfl ?_; refine TL.nil' ?_; refine TC.seq ?_; refine TC.seq ?_; refine TC.region ?_; refine TL.run1 (pure_move rfl) rfl ?_; refine TL.run1 (pure_move rfl) rfl ?_; refine TL.run1 (pure_eql rfl rfl) rfl ?_; refine TL.nil' ?_
  first | refine TC.condD rfl (fun hc16 => ?_) (fun hc16 => ?_) | refine TC.condN rfl (fun hc16 => ?_) (fun hc16 => ?_) | refine TC.cond rfl (fun hc16 => ?_) (fun hc16 => ?_)
  · try dsimp only at hc16
    exfalso; omega
  · try dsimp only at hc16
    refine TC.skip' ?_; refine TC.seq ?_; refine TC.region ?_; refine TL.run1 (pure_move rfl) rfl ?_; refine TL.run1 (pure_lenV Ty.sl27 rfl) rfl ?_; refine TL.run1 (pure_assign rfl) rfl ?_; refine TL.nil' ?_; refine TC.seq ?_; refine TC.drawTailN 6 Ty.follows (by kernel_rfl) (by kernel_rfl) ?_
    simp only [List.take_succ_cons, List.take_zero, List.drop_succ_cons, List.drop_zero]
    refine TD.run1 (pure_move rfl) rfl ?_; refine TD.run1 (pure_move rfl) rfl ?_; refine TD.run1 (pure_sliceV (l := 0) (h := i) (m := cap) Ty.sl27 rfl rfl rfl rfl (by omega) (by omega) (by omega)) rfl ?_
    rw [ite_self]
    refine TD.run1 (pure_move rfl) rfl ?_; refine TD.run1 (pure_move rfl) rfl ?_; refine TD.run1 (pure_sliceV (l := i + 1) (h := n) (m := cap) Ty.sl27 rfl (castI (by omega)) ⟨rfl, rfl⟩ rfl (by omega) (by omega) (by omega)) rfl ?_; refine TD.nil ?_
    show TL _ _ _ _ _ _
    refine TL.appendIn (g := g) (p := i) (m := n - (i + 1)) (n := n) (n' := n) (cap := cap) (xs := (encP l)) (src := (((encP l).drop (if cap = i + 1 then 0 else i + 1)).take (n - (i + 1)))) Ty.app27 rfl (.part (b := if cap = i + 1 then 0 else i + 1) (k := n - (i + 1)) (xs := (encP l)) (n := n) (cap := cap) rfl (by repeat (first | exact List.Mem.head _ | apply List.Mem.tail)) (by split <;> omega) (by split <;> omega) (by omega)) (by repeat (first | exact UpdR.here _ | apply UpdR.there)) (by simp only [List.length_append, List.length_take, List.length_drop, List.length_replicate]; split <;> omega) (by omega) (by omega) rfl ?_
    rw [show i + (n - (i + 1)) = n - 1 by omega]
    refine TL.run1 (pure_assign rfl) rfl ?_; refine TL.nil' ?_; refine TC.seq ?_; refine TC.region ?_; refine TL.run1 (pure_move rfl) rfl ?_; refine TL.run1 (pure_move rfl) rfl ?_; refine TL.run1 (pure_lenV Ty.sl27 rfl) rfl ?_; refine TL.run1 (pure_move rfl) rfl ?_; refine TL.run1 (pure_sliceV (l := n - 1) (h := n) (m := cap) Ty.sl27 rfl rfl rfl rfl (by omega) (by omega) (by omega)) rfl ?_
    rw [if_neg (show ¬ cap = n - 1 by omega)]
    refine TL.clearRow (g := g) (p := n - 1) (m := n - (n - 1)) (n := n) (n' := n) (cap := cap) Ty.app27 Ty.zero77 rfl rfl (by omega) (by omega) (by repeat (first | exact UpdR.here _ | apply UpdR.there)) (by simp only [List.length_append, List.length_take, List.length_drop, List.length_replicate]; split <;> omega) (by simp only [List.length_append, List.length_take, List.length_drop, List.length_replicate]; split <;> omega) (by omega) ?_; refine TL.nil' ?_; refine TC.seq ?_; refine TC.shrink (g := g) (k := n - 1) (by repeat (first | exact UpdR.here _ | apply UpdR.there)) (by simp only [List.length_append, List.length_take, List.length_drop, List.length_replicate]; split <;> omega) ?_; refine TC.region ?_; refine TL.run1 (pure_move rfl) rfl ?_; refine TL.run1 (pure_assign rfl) rfl ?_; refine TL.nil' ?_; refine TC.ret ?_
    exact retRow (e := 77) (es := 2) rfl (by repeat (first | exact List.Mem.head _ | apply List.Mem.tail)) (del_in (encP l) i n cap (by omega) hi hcap _ _ _)
theorem deleteAny_spec (l : List (Int × Int)) (v : Value) (i : Int) (h0 : 0 ≤ i) (hi : i < l.length) (hl : l.length ≤ 1000000) :
    CallD Try.prog 68 [.v v, .v (.int .i64 i), .v (.int .i64 (i + 1))] [.row v 77 2 (encP l)] (fun r H' => ∃ v, r = .v v ∧ H' = [.row v 77 2 ((encP l).take i.toNat ++ (encP l).drop (i.toNat + 1))]) := by
  intro w F vs hvl hv hh hF
  obtain ⟨i, rfl⟩ : ∃ n : Nat, i = n := ⟨i.toNat, by omega⟩
  rw [Int.toNat_natCast]
  obtain ⟨vals, hown, _⟩ := row_ok hh (List.mem_cons_self : Blk.row v 77 2 (encP l) ∈ _)
  have hk := encP_len l
  rcases hown.2 with ⟨_, hn⟩ | ⟨g, cap, cur, rfl, _, hg, hle, _⟩
  · omega
  · exact delete_spec l g _ cap i (by omega) hle (by omega) hl w F vs hvl hv hh hF
set_option maxRecDepth 100000 in
theorem SetB_spec (l : List (Int × Int)) (key : Int) (value : Int) (hinc : Inc (keysP l)) (hl : l.length ≤ 1000000) : Fun Try.prog 58 [.sl 2 (encP l), .v (.int .i64 key), .v (.int .i64 value)] (.sl 2 (encP (setB l key value))) := by
  refine Fun.enterF (n := 32) (rs := [.tmp 6]) Try.func58 rfl Try.ntmps58 Try.results58 rfl (fun w F => ?_)
  have hk := encP_len l
  refine TC.seq ?_; refine TC.region ?_; refine TL.run1 (pure_assign rfl) rfl ?_; refine TL.nil' ?_; refine TC.seq ?_; refine TC.region ?_; refine TL.run1 (pure_move rfl) rfl ?_; refine TL.run1 (pure_move rfl) rfl ?_; refine TL.run1 (pure_call (searchP_spec _ _ hinc hl) (.cons rfl (.cons rfl .nil)) Try.call66) rfl ?_; refine TL.run1 (pure_move rfl) rfl ?_; refine TL.run1 (pure_extract rfl rfl) rfl ?_; refine TL.run1 (pure_extract rfl rfl) rfl ?_; refine TL.run1 (pure_assign rfl) rfl ?_; refine TL.run1 (pure_assign rfl) rfl ?_; refine TL.nil' ?_; refine TC.seq ?_; refine TC.region ?_; refine TL.run1 (pure_move rfl) rfl ?_; refine TL.callD (H1 := []) (H2 := _) (SplitR.none _) (Clone_spec l hl) (.cons rfl .nil) Try.call67 (fun t ht => by cases ht; exact of_decide_eq_true rfl) ?_
  rintro r1 H1 ⟨v1, rfl, rfl⟩
  show TL _ _ _ _ _ [Blk.row v1 77 2 (encP l)]
  refine TL.run1 (pure_assign rfl) rfl ?_; refine TL.nil' ?_; refine TC.seq ?_; refine TC.seq ?_; refine TC.region ?_; refine TL.run1 (pure_move rfl) rfl ?_; refine TL.nil' ?_
  first | refine TC.condD rfl (fun hc18 => ?_) (fun hc18 => ?_) | refine TC.condN rfl (fun hc18 => ?_) (fun hc18 => ?_) | refine TC.cond rfl (fun hc18 => ?_) (fun hc18 => ?_)
  · try dsimp only at hc18
    have hin : inI (keysP l) key = true := decide_eq_true hc18
    obtain ⟨hlt, hkey⟩ := in_at hin
    refine TC.seq ?_; refine TC.region ?_; refine TL.run1 (pure_move rfl) rfl ?_; refine TL.run1 (pure_move rfl) rfl ?_; refine TL.run1 (pure_move rfl) rfl ?_
    refine TL.indexRow Ty.sl27 rfl rfl (by repeat (first | exact List.Mem.head _ | apply List.Mem.tail)) (by omega) (by omega) rfl (fun g22 hg22 => ?_)
    refine TL.run1 (pure_fieldAddr_own Ty.f77_1 rfl) rfl ?_
    have hrow := encP_get l (lbI (keysP l) key) (by omega) (by omega)
    refine TL.storeRow (es := 2) (i := ((lbI (keysP l) key) : Int).toNat) (o := 1) rfl hg22 (by omega) rfl (.one rfl) Try.sizeOf3 rfl (by repeat (first | exact UpdR.here _ | apply UpdR.there)) hrow (by repeat (first | exact PutR.nil _ | apply PutR.here | apply PutR.skip)) ?_; refine TL.nil' ?_; refine TC.seq ?_; refine TC.region ?_; refine TL.run1 (pure_move rfl) rfl ?_; refine TL.run1 (pure_assign rfl) rfl ?_; refine TL.nil' ?_; refine TC.ret ?_; refine then_ret ?_
    have hres : setB l key value = l.set (lbI (keysP l) key) (key, value) := by unfold setB; rw [if_pos hin]
    have hrow2 : (encP l).set ((lbI (keysP l) key) : Int).toNat [.v (.int .i64 (pAt l (lbI (keysP l) key)).1), .v (.int .i64 value)] = encP (setB l key value) := by rw [hres, encP_set, hkey, Int.toNat_natCast]
    exact retF_row (xs := (encP l).set ((lbI (keysP l) key) : Int).toNat [.v (.int .i64 (pAt l (lbI (keysP l) key)).1), .v (.int .i64 value)]) rfl (by repeat (first | exact List.Mem.head _ | apply List.Mem.tail)) (by decide) (by rw [hrow2]; exact encP_each _) (by rw [hrow2])
  · try dsimp only at hc18
    have hin : inI (keysP l) key = false := decide_eq_false hc18
    have hle := lbI_le (keysP l) key
    rw [keysP_len] at hle
    refine TC.skip' ?_; refine TC.seq ?_; refine TC.region ?_; refine TL.run1 (pure_move rfl) rfl ?_; refine TL.run1 (pure_move rfl) rfl ?_; refine TL.run1 (pure_move rfl) rfl ?_; refine TL.run1 (pure_move rfl) rfl ?_; refine TL.run1 (pure_build Ty.pl77 Ty.zero77 (.cons rfl rfl (.one rfl) rfl (.here (.nil _)) (.cons rfl rfl (.one rfl) rfl (.skip (.here (.nil _))) (.nil _)))) rfl ?_
    refine TL.buildRow (xs := [.tmp 29]) Ty.app27 (by decide) rfl rfl (.cons rfl (.agg _) rfl .nil) rfl (fun v30 hv30 => ?_)
    refine TL.callD (H1 := [.row v30 77 2 [[D.v (.int .i64 key), .v (.int .i64 value)]], .row v1 77 2 (encP l)]) (H2 := []) (SplitR.all _) (insertAny_spec l v1 v30 (lbI (keysP l) key) key value (by omega) (by omega) hl) (.cons rfl (.cons rfl (.cons rfl .nil))) Try.call69 (fun t ht => by cases ht; exact of_decide_eq_true rfl) ?_
    rintro r2 H2 ⟨v2, rfl, rfl⟩
    show TL _ _ _ _ _ [Blk.row v2 77 2 ((encP l).take ((lbI (keysP l) key) : Int).toNat ++ [[D.v (.int .i64 key), .v (.int .i64 value)]] ++ (encP l).drop ((lbI (keysP l) key) : Int).toNat)]
    refine TL.run1 (pure_assign rfl) rfl ?_; refine TL.nil' ?_; refine TC.ret ?_
    have hres : (encP l).take ((lbI (keysP l) key) : Int).toNat ++ [[D.v (.int .i64 key), .v (.int .i64 value)]] ++ (encP l).drop ((lbI (keysP l) key) : Int).toNat = encP (setB l key value) := by (unfold setB; rw [hin, if_neg (by simp), Int.toNat_natCast, encP_append, encP_take, encP_drop, List.append_assoc]; rfl)
    exact retF_row (xs := (encP l).take ((lbI (keysP l) key) : Int).toNat ++ [[D.v (.int .i64 key), .v (.int .i64 value)]] ++ (encP l).drop ((lbI (keysP l) key) : Int).toNat) rfl (by repeat (first | exact List.Mem.head _ | apply List.Mem.tail)) (by decide) (by rw [hres]; exact encP_each _) (by rw [hres])
set_option maxRecDepth 100000 in
theorem ClearB_spec (l : List (Int × Int)) (key : Int) (hinc : Inc (keysP l)) (hl : l.length ≤ 1000000) : Fun Try.prog 57 [.sl 2 (encP l), .v (.int .i64 key)] (.sl 2 (encP (clearB l key))) := by
  refine Fun.enterF (n := 23) (rs := [.tmp 4]) Try.func57 rfl Try.ntmps57 Try.results57 rfl (fun w F => ?_)
  have hk := encP_len l
  refine TC.seq ?_; refine TC.region ?_; refine TL.run1 (pure_assign rfl) rfl ?_; refine TL.nil' ?_; refine TC.seq ?_; refine TC.region ?_; refine TL.run1 (pure_move rfl) rfl ?_; refine TL.run1 (pure_move rfl) rfl ?_; refine TL.run1 (pure_call (searchP_spec _ _ hinc hl) (.cons rfl (.cons rfl .nil)) Try.call66) rfl ?_; refine TL.run1 (pure_move rfl) rfl ?_; refine TL.run1 (pure_extract rfl rfl) rfl ?_; refine TL.run1 (pure_extract rfl rfl) rfl ?_; refine TL.run1 (pure_assign rfl) rfl ?_; refine TL.run1 (pure_assign rfl) rfl ?_; refine TL.nil' ?_; refine TC.seq ?_; refine TC.region ?_; refine TL.run1 (pure_move rfl) rfl ?_; refine TL.callD (H1 := []) (H2 := _) (SplitR.none _) (Clone_spec l hl) (.cons rfl .nil) Try.call67 (fun t ht => by cases ht; exact of_decide_eq_true rfl) ?_
  rintro r1 H1 ⟨v1, rfl, rfl⟩
  show TL _ _ _ _ _ [Blk.row v1 77 2 (encP l)]
  refine TL.run1 (pure_assign rfl) rfl ?_; refine TL.nil' ?_; refine TC.seq ?_; refine TC.seq ?_; refine TC.region ?_; refine TL.run1 (pure_move rfl) rfl ?_; refine TL.nil' ?_
  first | refine TC.condD rfl (fun hc16 => ?_) (fun hc16 => ?_) | refine TC.condN rfl (fun hc16 => ?_) (fun hc16 => ?_) | refine TC.cond rfl (fun hc16 => ?_) (fun hc16 => ?_)
  · try dsimp only at hc16
    have hin : inI (keysP l) key = true := decide_eq_true hc16
    obtain ⟨hlt, hkey⟩ := in_at hin
    refine TC.region ?_; refine TL.run1 (pure_move rfl) rfl ?_; refine TL.run1 (pure_move rfl) rfl ?_; refine TL.run1 (pure_move rfl) rfl ?_; refine TL.run1 (pure_add rfl rfl (mkI64 (by omega) (by omega))) rfl ?_; refine TL.callD (H1 := [.row v1 77 2 (encP l)]) (H2 := []) (SplitR.all _) (deleteAny_spec l v1 (lbI (keysP l) key) (by omega) (by omega) hl) (.cons rfl (.cons rfl (.cons rfl .nil))) Try.call68 (fun t ht => by cases ht; exact of_decide_eq_true rfl) ?_
    rintro r2 H2 ⟨v2, rfl, rfl⟩
    show TL _ _ _ _ _ [Blk.row v2 77 2 ((encP l).take ((lbI (keysP l) key) : Int).toNat ++ (encP l).drop (((lbI (keysP l) key) : Int).toNat + 1))]
    refine TL.run1 (pure_assign rfl) rfl ?_; refine TL.nil' ?_; refine TC.seq ?_; refine TC.region ?_; refine TL.run1 (pure_move rfl) rfl ?_; refine TL.run1 (pure_assign rfl) rfl ?_; refine TL.nil' ?_; refine TC.ret ?_
    have hres : (encP l).take ((lbI (keysP l) key) : Int).toNat ++ (encP l).drop (((lbI (keysP l) key) : Int).toNat + 1) = encP (clearB l key) := by (unfold clearB; rw [if_pos hin, Int.toNat_natCast, encP_append, encP_take, encP_drop])
    exact retF_row (xs := (encP l).take ((lbI (keysP l) key) : Int).toNat ++ (encP l).drop (((lbI (keysP l) key) : Int).toNat + 1)) rfl (by repeat (first | exact List.Mem.head _ | apply List.Mem.tail)) (by decide) (by rw [hres]; exact encP_each _) (by rw [hres])
  · try dsimp only at hc16
    have hin : inI (keysP l) key = false := decide_eq_false hc16
    have hle := lbI_le (keysP l) key
    rw [keysP_len] at hle
    refine TC.skip' ?_; refine TC.seq ?_; refine TC.region ?_; refine TL.run1 (pure_move rfl) rfl ?_; refine TL.run1 (pure_assign rfl) rfl ?_; refine TL.nil' ?_; refine TC.ret ?_
    exact retF_row rfl (by repeat (first | exact List.Mem.head _ | apply List.Mem.tail)) (by decide) (encP_each _) (by unfold clearB; rw [hin, if_neg (by simp)])
theorem Set_spec (l : List (Int × Int)) (key : Int) (value : Int) (hinc : Inc (keysP l)) (hl : l.length ≤ 1000000) : Fun Try.prog 58 [.sl 2 (encP l), .v (.int .i64 key), .v (.int .i64 value)] (.sl 2 (encP (setP l key value))) := setB_eq hinc key value ▸ SetB_spec l key value hinc hl
theorem Clear_spec (l : List (Int × Int)) (key : Int) (hinc : Inc (keysP l)) (hl : l.length ≤ 1000000) : Fun Try.prog 57 [.sl 2 (encP l), .v (.int .i64 key)] (.sl 2 (encP (clearP l key))) := clearB_eq hinc key ▸ ClearB_spec l key hinc hl
-- sEqual_spec: not in this seat
-- Equal_spec: not in this seat
end Go.Ob
set_option linter.unusedVariables false
set_option linter.unusedSimpArgs false
namespace Go.Ob
open Go.Proofs
theorem encRs_each (l : List RowD) : ∀ x ∈ encRs l, x.length = 6 := by
  intro x hx
  obtain ⟨s, _, rfl⟩ := List.mem_map.1 hx
  rfl
theorem encCs_each (l : List CellD) : ∀ x ∈ encCs l, x.length = 7 := by
  intro x hx
  obtain ⟨s, _, rfl⟩ := List.mem_map.1 hx
  rfl
end Go.Ob
set_option linter.unusedVariables false
set_option linter.unusedSimpArgs false
namespace Go.Ob
open Go.Proofs
theorem perm_rot {α : Type} (a b c : α) (L : List α) : (a :: b :: c :: L).Perm (c :: b :: (L ++ [a])) := by
  have h1 : (a :: b :: c :: L).Perm (c :: b :: a :: L) := ((List.Perm.swap b a (c :: L)).trans ((List.Perm.swap c a L).cons b)).trans (List.Perm.swap c b (a :: L))
  exact h1.trans (((List.perm_append_comm (l₁ := [a]) (l₂ := L)).cons b).cons c)
def encRv (r : RowD) (v : Value) : List D := [r.hp, r.hi, r.hm, r.hd, r.hl, .v v]
def outX (rs : List RowD) (vs : List Value) : List (List D) := List.zipWith encRv rs vs
def inB (rs : List RowD) (vs : List Value) : Hp := List.zipWith (fun r v => Blk.row v 74 7 (encCs r.cells)) rs vs
theorem takeR_snoc (rs : List RowD) (i : Nat) (h : i < rs.length) : rs.take (i + 1) = rs.take i ++ [rAt rs (i : Nat)] := by
  rw [List.take_add_one, List.getElem?_eq_getElem h]
  simp [rAt, h]
theorem outX_snoc (rs : List RowD) (vs : List Value) (i : Nat) (h : i < rs.length) (hl : vs.length = i) (v : Value) : outX (rs.take (i + 1)) (vs ++ [v]) = outX (rs.take i) vs ++ [encRv (rAt rs (i : Nat)) v] := by
  rw [takeR_snoc rs i h, outX, List.zipWith_append (by rw [List.length_take]; omega)]; rfl
theorem inB_snoc (rs : List RowD) (vs : List Value) (i : Nat) (h : i < rs.length) (hl : vs.length = i) (v : Value) : inB (rs.take (i + 1)) (vs ++ [v]) = inB (rs.take i) vs ++ [Blk.row v 74 7 (encCs (rAt rs (i : Nat)).cells)] := by
  rw [takeR_snoc rs i h, inB, List.zipWith_append (by rw [List.length_take]; omega)]; rfl
theorem outX_len (rs : List RowD) (vs : List Value) : (outX rs vs).length = min rs.length vs.length := by simp [outX]
def TabB (I : List D → Prop) (rs : List RowD) : Prop := ∀ r ∈ rs, ∃ cs, HeadB [r.hp, r.hi, r.hm, r.hd, r.hl] ∧ encCs r.cells = cs ∧ SlB 7 120 cs ∧ ∀ x ∈ cs, CellB I x
set_option maxRecDepth 100000 in
theorem copied_spec (I : List D → Prop) (hI : ∀ x, I x → Fun Try.prog 86 [.agg x] (.agg x)) (rs : List RowD) (hB : TabB I rs) (hl : rs.length ≤ 2000) : CallD Try.prog 44 [.sl 6 (encRs rs)] [] (fun r H' => ∃ v vs, r = .v v ∧ vs.length = rs.length ∧ H' = .row v 36 6 (outX rs vs) :: inB rs vs) := by
  refine CallD.enter (n := 19) (rs := [.tmp 2]) Try.func44 rfl Try.ntmps44 Try.results44 rfl (fun w F => ?_)
  have hk := encRs_len rs
  refine TC.seq ?_
  refine TC.region ?_
  refine TL.run1 (pure_assign rfl) rfl ?_
  refine TL.nil' ?_
  refine TC.seq ?_
  refine TC.region ?_
  refine TL.run1 (pure_assign rfl) rfl ?_
  refine TL.nil' ?_
  refine TC.seq ?_
  refine TC.seq ?_
  refine TC.nilrow 36 6 ?_
  refine TC.region ?_
  refine TL.run1 (pure_move rfl) rfl ?_
  first | refine TL.run1 (pure_len Ty.sl22 rfl) rfl ?_ | refine TL.run1 (pure_len_row Ty.sl22 rfl (by repeat (first | exact List.Mem.head _ | apply List.Mem.tail))) rfl ?_ | refine TL.run1 (pure_len_nil Ty.sl22 rfl) rfl ?_
  refine TL.run1 (pure_move rfl) rfl ?_
  refine TL.nil' ?_
  refine TC.block ?_
  refine TC.loopX (X := Nat × Value × List Value) (fun (i, v, vs) => [(3, .v v), (6, .sl 6 (encRs rs)), (7, .v (.int .i64 (encRs rs).length)), (8, .v (.int .i64 i))]) (fun (i, v, vs) => (Blk.row v 36 6 (outX (rs.take i) vs) :: inB (rs.take i) vs)) (fun (i, v, vs) => (i ≤ rs.length) ∧ (vs.length = i)) (fun (i, v, vs) => rs.length - i) (0, .slice none 0 0, []) ⟨by skip; repeat (first | exact Agree.nil | refine Agree.cons rfl ?_), by skip; repeat (first | exact List.nil_sublist _ | exact List.Sublist.refl _ | apply List.Sublist.cons_cons | apply List.Sublist.cons)⟩ ?_ ?_
  · skip
    exact ⟨Nat.zero_le _, rfl⟩
  rintro ⟨i, v, vs⟩
  rintro ⟨h1, h2⟩
  show TC _ _ _ (Env.of [(3, .v v), (6, .sl 6 (encRs rs)), (7, .v (.int .i64 (encRs rs).length)), (8, .v (.int .i64 i))]) (Blk.row v 36 6 (outX (rs.take i) vs) :: inB (rs.take i) vs)
  refine TC.seq ?_
  refine TC.region ?_
  refine TL.run1 (pure_lss rfl rfl) rfl ?_
  refine TL.nil' ?_
  refine TC.seq ?_
  first | refine TC.condD rfl (fun hc9 => ?_) (fun hc9 => ?_) | refine TC.condN rfl (fun hc9 => ?_) (fun hc9 => ?_) | refine TC.cond rfl (fun hc9 => ?_) (fun hc9 => ?_)
  · try dsimp only at hc9
    refine TC.skip' ?_
    refine TC.seq ?_
    refine TC.block ?_
    refine TC.seq ?_
    have hil : i < rs.length := by omega
    have hrow := encRs_get rs (i : Int) (by omega) (by omega)
    obtain ⟨cs, q1, q2, q3, q4⟩ := hB (rAt rs (i : Nat)) (rAt_mem rs (i : Int) (by omega) (by omega))
    have hol := outX_len (rs.take i) vs
    have htl : (rs.take i).length = i := by (rw [List.length_take]; omega)
    refine TC.region ?_
    refine TL.run1 (pure_indexAddr Ty.sl22 rfl rfl (by omega) hrow (by simp [encR])) rfl ?_
    first | refine TL.run1 (pure_load Ty.agg36 rfl (.succ (.succ (.succ (.succ (.succ (.succ (.zero _)))))))) rfl ?_ | refine TL.run1 (pure_load_own Ty.agg36 rfl (by repeat (first | exact List.Mem.head _ | apply List.Mem.tail)) (by repeat (first | exact DropR.zero _ | apply DropR.succ)) (.succ (.succ (.succ (.succ (.succ (.succ (.zero _)))))))) rfl ?_
    refine TL.alloc Ty.zero36 rfl (fun g5 => ?_)
    refine TL.store rfl rfl (.agg _) Try.sizeOf36 rfl (by repeat (first | exact UpdR.here _ | apply UpdR.there)) (by repeat (first | exact PutR.nil _ | apply PutR.here | apply PutR.skip)) ?_
    refine TL.nil' ?_
    refine TC.region ?_
    refine TL.run1 (pure_move rfl) rfl ?_
    first | refine TL.run1 (pure_load Ty.agg36 rfl (.succ (.succ (.succ (.succ (.succ (.succ (.zero _)))))))) rfl ?_ | refine TL.run1 (pure_load_own Ty.agg36 rfl (by repeat (first | exact List.Mem.head _ | apply List.Mem.tail)) (by repeat (first | exact DropR.zero _ | apply DropR.succ)) (.succ (.succ (.succ (.succ (.succ (.succ (.zero _)))))))) rfl ?_
    refine TL.callD (SplitR.none _) (CloneRowD_spec I hI [(rAt rs (i : Nat)).hp, (rAt rs (i : Nat)).hi, (rAt rs (i : Nat)).hm, (rAt rs (i : Nat)).hd, (rAt rs (i : Nat)).hl] cs q1 q3 q4) (.cons (by rw [← q2]; rfl) .nil) Try.call56 (fun t ht => by cases ht; exact of_decide_eq_true rfl) ?_
    rintro r2 H2 ⟨v14, rfl, rfl⟩
    simp only [List.cons_append, List.nil_append]
    rw [← q2]
    refine TL.run1 (pure_buildSlice (xs := [.tmp 14]) Ty.app22 (by decide) rfl rfl (.cons rfl (.agg _) rfl .nil)) rfl ?_
    refine TL.append (ys := [encRv (rAt rs (i : Nat)) v14]) Ty.app22 rfl rfl (by intro _; repeat (first | exact UpdR.here _ | apply UpdR.there)) (by simp only [List.length_append, List.length_cons, List.length_nil]; omega) (by simp only [List.length_append, List.length_cons, List.length_nil]; omega) rfl (fun v15 hv15 => ?_)
    refine TL.perm (perm_rot _ _ _ _) ?_
    refine TL.run1 (pure_assign rfl) rfl ?_
    refine TL.nil ?_
    refine block_normal ?_
    refine then_normal ?_
    refine TC.region ?_
    refine TL.run1 (pure_add rfl rfl (mkI64 (by omega) (by omega))) rfl ?_
    refine TL.run1 (pure_move rfl) rfl ?_
    refine TL.nil ?_
    refine loop_next (i + 1, v15, vs ++ [v14]) ⟨by ((try dsimp only); rw [show (((i + 1 : Nat)) : Int) = (i : Int) + 1 by omega]; repeat (first | exact Agree.nil | refine Agree.cons rfl ?_)), by (try dsimp only); rw [outX_snoc rs vs i hil h2, inB_snoc rs vs i hil h2]; repeat (first | exact List.nil_sublist _ | exact List.Sublist.refl _ | apply List.Sublist.cons_cons | apply List.Sublist.cons)⟩ ⟨by omega, by rw [List.length_append, h2]; rfl⟩ (by (try dsimp only); omega)
  · try dsimp only at hc9
    refine TC.exit ?_
    refine then_exit ?_
    refine loop_exit ?_
    refine block_here ?_
    refine then_normal ?_
    refine TC.seq ?_
    refine TC.region ?_
    refine TL.run1 (pure_move rfl) rfl ?_
    refine TL.run1 (pure_assign rfl) rfl ?_
    refine TL.nil' ?_
    refine TC.ret ?_
    have hie : i = rs.length := by omega
    subst hie
    rw [List.take_length]
    exact ⟨.inl rfl, [.v v], .tmp rfl .nil, _, List.Sublist.refl _, v, vs, rfl, h2, rfl⟩
end Go.Ob
