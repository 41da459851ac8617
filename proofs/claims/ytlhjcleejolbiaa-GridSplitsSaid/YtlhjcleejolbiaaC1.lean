import Derived.Test.YtlhjcleejolbiaaSq
import Derived.Test.YtlhjcleejolbiaaObU
set_option linter.unusedVariables false
set_option linter.unusedSimpArgs false
namespace Go.Ob
open Go.Proofs

theorem TC.freezeBox {K : Ctx} {Q : Exit → Env → Hp → Prop} {env : Env} {H H' : Hp} {c : Code} {g T : Nat} {cs : List D} (t : Nat) (hne : cs ≠ []) (hd : DelR (.box g T cs) H H') (ht : env t = some (.v (.pointer (some ⟨g, 0, none⟩)))) (h : TC K c Q (env.put t (some (.at_ cs))) H') : TC K c Q env H :=
  TC.view (fun a w hs => hs.frz hd.sub.1 fun t' d' hd' => by
    rcases Env.put_some hd' with ⟨rfl, e⟩ | ⟨_, e⟩
    · cases e; exact ⟨_, ht, .boxS ⟨hd.sub.2, hd.apart hs.heap.apart⟩ hne⟩
    · exact ⟨d', e, .same d'⟩) h
theorem TL.rowOne {K : Ctx} {Q : Exit → Env → Hp → Prop} {env : Env} {H : Hp} {ops : Array Oper} {l : List Oper} {v : Value} {e es : Nat} {xs : List (List D)} (hm : Blk.row v e es xs ∈ H) (h : v.oneCell' = true → TL K ops l Q env H) : TL K ops l Q env H := fun a w hs => by
  obtain ⟨vals, hown, _⟩ := row_ok hs.heap hm
  rcases hown.2 with ⟨hv, hn⟩ | ⟨g, cap, cur, hv, _, _, hle, _⟩
  · exact h (by rw [hv]; rfl) a w hs
  · exact h (by rw [hv]; rfl) a w hs
/-! ### heads, cells, rows, items, as data, and how long their lists are -/
def SlB (es by' : Nat) (xs : List (List D)) : Prop := (∀ x ∈ xs, x.length = es) ∧ xs.length * by' ≤ 140737488355328
def HeadB (ds : List D) : Prop := ∃ ps i m dl ly, ds = [.sl 2 ps, .v (.int .i64 i), .v (.int .i64 m), .sl 2 dl, .sl 4 ly] ∧ SlB 2 16 ps ∧ SlB 2 16 dl ∧ SlB 4 32 ly
def CellB (I : List D → Prop) (ds : List D) : Prop := ∃ id h fl, ds = .v (.int .i64 id) :: (h ++ [.sl 11 fl]) ∧ HeadB h ∧ SlB 11 176 fl ∧ ∀ x ∈ fl, I x
def RowB (I : List D → Prop) (ds : List D) : Prop := ∃ h cs, ds = h ++ [.sl 7 cs] ∧ HeadB h ∧ SlB 7 120 cs ∧ ∀ x ∈ cs, CellB I x
def ItemB : Nat → List D → Prop
  | 0, _ => False
  | n + 1, ds => ∃ a b c s h fl rs, ds = .v (.int .i64 a) :: .v (.int .i64 b) :: .v (.int .i64 c) :: .v (.string s) :: (h ++ [.sl 11 fl, .sl 6 rs]) ∧ HeadB h ∧ SlB 11 176 fl ∧ SlB 6 112 rs ∧ (∀ x ∈ fl, ItemB n x) ∧ ∀ x ∈ rs, RowB (ItemB n) x
theorem HeadB.len {ds : List D} (h : HeadB ds) : ds.length = 5 := by obtain ⟨ps, i, m, dl, ly, rfl, _⟩ := h; rfl
theorem CellB.len {I : List D → Prop} {ds : List D} (h : CellB I ds) : ds.length = 7 := by
  obtain ⟨id, hd, fl, rfl, h1, _⟩ := h
  have := h1.len
  simp [this]
theorem RowB.len {I : List D → Prop} {ds : List D} (h : RowB I ds) : ds.length = 6 := by
  obtain ⟨hd, cs, rfl, h1, _⟩ := h
  have := h1.len
  simp [this]
theorem len5 {α : Type} {l : List α} (h : l.length = 5) : ∃ a b c d e, l = [a, b, c, d, e] := by
  match l, h with
  | [a, b, c, d, e], _ => exact ⟨a, b, c, d, e, rfl⟩
theorem len6 {α : Type} {l : List α} (h : l.length = 6) : ∃ a b c d e f, l = [a, b, c, d, e, f] := by
  match l, h with
  | [a, b, c, d, e, f], _ => exact ⟨a, b, c, d, e, f, rfl⟩
theorem len7 {α : Type} {l : List α} (h : l.length = 7) : ∃ a b c d e f g, l = [a, b, c, d, e, f, g] := by
  match l, h with
  | [a, b, c, d, e, f, g], _ => exact ⟨a, b, c, d, e, f, g, rfl⟩
theorem len11 {α : Type} {l : List α} (h : l.length = 11) : ∃ a b c d e f g i j k m, l = [a, b, c, d, e, f, g, i, j, k, m] := by
  match l, h with
  | [a, b, c, d, e, f, g, i, j, k, m], _ => exact ⟨a, b, c, d, e, f, g, i, j, k, m, rfl⟩
theorem take_next {α : Type} {xs : List α} {i : Nat} {x : α} (h : xs[i]? = some x) : xs.take (i + 1) = xs.take i ++ [x] := by
  rw [List.take_add_one, h]; rfl
theorem ItemB.len : ∀ {n : Nat} {ds : List D}, ItemB n ds → ds.length = 11
  | 0, _, h => h.elim
  | n + 1, _, ⟨a, b, c, s, hd, fl, rs, e, h1, _⟩ => by
    subst e
    have := h1.len
    simp [this]
set_option maxRecDepth 100000 in
theorem cloneP12_spec (xs : List (List D)) (hx : SlB 2 16 xs) : Fun Try.prog 72 [.sl 2 xs] (.sl 2 xs) := by
  refine Fun.enterF (n := 8) (rs := [.tmp 2]) Try.func72 rfl Try.ntmps72 Try.results72 rfl (fun w F => ?_)
  obtain ⟨he, hbd⟩ := hx
  refine TC.seq ?_
  refine TC.region ?_
  refine TL.run1 (pure_assign rfl) rfl ?_
  refine TL.nil' ?_
  refine TC.seq ?_
  refine TC.seq ?_
  refine TC.region ?_
  refine TL.run1 (pure_move rfl) rfl ?_
  refine TL.eqlNil Try.underlying27 rfl rfl rfl (fun b hb => ?_)
  refine TL.nil' ?_
  first | refine TC.condD rfl (fun hc4 => ?_) (fun hc4 => ?_) | refine TC.condN rfl (fun hc4 => ?_) (fun hc4 => ?_) | refine TC.cond rfl (fun hc4 => ?_) (fun hc4 => ?_)
  · try dsimp only at hc4
    refine TC.nilrow 77 2 ?_
    refine TC.seq ?_
    refine TC.region ?_
    refine TL.run1 (pure_assign rfl) rfl ?_
    refine TL.nil' ?_
    refine TC.ret ?_
    refine then_ret ?_
    exact retF_row rfl (by repeat (first | exact List.Mem.head _ | apply List.Mem.tail)) (by decide) (by simp) (by rw [hb hc4])
  · try dsimp only at hc4
    refine TC.skip' ?_
    refine TC.seq ?_
    refine TC.region ?_
    refine TL.buildRow (xs := []) (ys := []) Ty.app27 (by decide) rfl rfl .nil rfl (fun v5 hv5 => ?_)
    refine TL.run1 (pure_move rfl) rfl ?_
    refine TL.append Ty.app27 rfl rfl (by intro _; repeat (first | exact UpdR.here _ | apply UpdR.there)) (by simp only [List.length_append, List.length_cons, List.length_nil]; omega) (by simp only [List.length_append, List.length_cons, List.length_nil]; omega) rfl (fun v7 hv7 => ?_)
    refine TL.run1 (pure_assign rfl) rfl ?_
    refine TL.nil' ?_
    refine TC.ret ?_
    exact retF_row rfl (by repeat (first | exact List.Mem.head _ | apply List.Mem.tail)) (by decide) he rfl
set_option maxRecDepth 100000 in
theorem cloneDel_spec (xs : List (List D)) (hx : SlB 2 16 xs) : Fun Try.prog 73 [.sl 2 xs] (.sl 2 xs) := by
  refine Fun.enterF (n := 8) (rs := [.tmp 2]) Try.func73 rfl Try.ntmps73 Try.results73 rfl (fun w F => ?_)
  obtain ⟨he, hbd⟩ := hx
  refine TC.seq ?_
  refine TC.region ?_
  refine TL.run1 (pure_assign rfl) rfl ?_
  refine TL.nil' ?_
  refine TC.seq ?_
  refine TC.seq ?_
  refine TC.region ?_
  refine TL.run1 (pure_move rfl) rfl ?_
  refine TL.eqlNil Try.underlying28 rfl rfl rfl (fun b hb => ?_)
  refine TL.nil' ?_
  first | refine TC.condD rfl (fun hc4 => ?_) (fun hc4 => ?_) | refine TC.condN rfl (fun hc4 => ?_) (fun hc4 => ?_) | refine TC.cond rfl (fun hc4 => ?_) (fun hc4 => ?_)
  · try dsimp only at hc4
    refine TC.nilrow 111 2 ?_
    refine TC.seq ?_
    refine TC.region ?_
    refine TL.run1 (pure_assign rfl) rfl ?_
    refine TL.nil' ?_
    refine TC.ret ?_
    refine then_ret ?_
    exact retF_row rfl (by repeat (first | exact List.Mem.head _ | apply List.Mem.tail)) (by decide) (by simp) (by rw [hb hc4])
  · try dsimp only at hc4
    refine TC.skip' ?_
    refine TC.seq ?_
    refine TC.region ?_
    refine TL.buildRow (xs := []) (ys := []) Ty.app28 (by decide) rfl rfl .nil rfl (fun v5 hv5 => ?_)
    refine TL.run1 (pure_move rfl) rfl ?_
    refine TL.append Ty.app28 rfl rfl (by intro _; repeat (first | exact UpdR.here _ | apply UpdR.there)) (by simp only [List.length_append, List.length_cons, List.length_nil]; omega) (by simp only [List.length_append, List.length_cons, List.length_nil]; omega) rfl (fun v7 hv7 => ?_)
    refine TL.run1 (pure_assign rfl) rfl ?_
    refine TL.nil' ?_
    refine TC.ret ?_
    exact retF_row rfl (by repeat (first | exact List.Mem.head _ | apply List.Mem.tail)) (by decide) he rfl
set_option maxRecDepth 100000 in
theorem cloneLay_spec (xs : List (List D)) (hx : SlB 4 32 xs) : Fun Try.prog 74 [.sl 4 xs] (.sl 4 xs) := by
  refine Fun.enterF (n := 8) (rs := [.tmp 2]) Try.func74 rfl Try.ntmps74 Try.results74 rfl (fun w F => ?_)
  obtain ⟨he, hbd⟩ := hx
  refine TC.seq ?_
  refine TC.region ?_
  refine TL.run1 (pure_assign rfl) rfl ?_
  refine TL.nil' ?_
  refine TC.seq ?_
  refine TC.seq ?_
  refine TC.region ?_
  refine TL.run1 (pure_move rfl) rfl ?_
  refine TL.eqlNil Try.underlying29 rfl rfl rfl (fun b hb => ?_)
  refine TL.nil' ?_
  first | refine TC.condD rfl (fun hc4 => ?_) (fun hc4 => ?_) | refine TC.condN rfl (fun hc4 => ?_) (fun hc4 => ?_) | refine TC.cond rfl (fun hc4 => ?_) (fun hc4 => ?_)
  · try dsimp only at hc4
    refine TC.nilrow 113 4 ?_
    refine TC.seq ?_
    refine TC.region ?_
    refine TL.run1 (pure_assign rfl) rfl ?_
    refine TL.nil' ?_
    refine TC.ret ?_
    refine then_ret ?_
    exact retF_row rfl (by repeat (first | exact List.Mem.head _ | apply List.Mem.tail)) (by decide) (by simp) (by rw [hb hc4])
  · try dsimp only at hc4
    refine TC.skip' ?_
    refine TC.seq ?_
    refine TC.region ?_
    refine TL.buildRow (xs := []) (ys := []) Ty.app29 (by decide) rfl rfl .nil rfl (fun v5 hv5 => ?_)
    refine TL.run1 (pure_move rfl) rfl ?_
    refine TL.append Ty.app29 rfl rfl (by intro _; repeat (first | exact UpdR.here _ | apply UpdR.there)) (by simp only [List.length_append, List.length_cons, List.length_nil]; omega) (by simp only [List.length_append, List.length_cons, List.length_nil]; omega) rfl (fun v7 hv7 => ?_)
    refine TL.run1 (pure_assign rfl) rfl ?_
    refine TL.nil' ?_
    refine TC.ret ?_
    exact retF_row rfl (by repeat (first | exact List.Mem.head _ | apply List.Mem.tail)) (by decide) he rfl
set_option maxRecDepth 100000 in
theorem CloneHead_spec (ds : List D) (h : HeadB ds) : Fun Try.prog 63 [.agg ds] (.agg ds) := by
  obtain ⟨ps, i, m, dl, ly, rfl, h1, h2, h3⟩ := h
  refine Fun.enterF (n := 20) (rs := [.cell 2 33]) Try.func63 rfl Try.ntmps63 Try.results63 rfl (fun w F => ?_)
  refine TC.seq ?_
  refine TC.region ?_
  refine TL.box rfl (.agg _) rfl (fun g1 => ?_)
  refine TL.alloc Ty.zero33 rfl (fun g2 => ?_)
  refine TL.nil' ?_
  refine TC.seq ?_
  refine TC.region ?_
  first | refine TL.run1 (pure_fieldAddr Ty.f33_0 rfl (.zero _) (List.cons_ne_nil _ _)) rfl ?_ | refine TL.run1 (pure_fieldAddr_own Ty.f33_0 rfl) rfl ?_
  first | refine TL.run1 (pure_load1 Ty.one27 rfl) rfl ?_ | refine TL.run1 (pure_load1_own Ty.one27 rfl (by repeat (first | exact List.Mem.head _ | apply List.Mem.tail)) (by repeat (first | exact DropR.zero _ | apply DropR.succ))) rfl ?_
  refine TL.run1 (pure_call (cloneP12_spec ps h1) (.cons rfl .nil) Try.call72) rfl ?_
  first | refine TL.run1 (pure_fieldAddr Ty.f33_0 rfl (.zero _) (List.cons_ne_nil _ _)) rfl ?_ | refine TL.run1 (pure_fieldAddr_own Ty.f33_0 rfl) rfl ?_
  refine TL.store rfl rfl (.one (by first | rfl | assumption)) Try.sizeOf27 rfl (by repeat (first | exact UpdR.here _ | apply UpdR.there)) (by repeat (first | exact PutR.nil _ | apply PutR.here | apply PutR.skip)) ?_
  refine TL.nil' ?_
  refine TC.seq ?_
  refine TC.drawSq 13 8 0 [10] [Blk.box g1 33 [.sl 2 ps, .v (.int .i64 i), .v (.int .i64 m), .sl 2 dl, .sl 4 ly]] [] Ty.follows (by decide) rfl (by kernel_rfl) (by kernel_rfl) (by kernel_rfl) (by kernel_rfl) (SplitR.none _) ?_
  first | refine TD.run1 (pure_fieldAddr Ty.f33_1 rfl (.succ (.zero _)) (List.cons_ne_nil _ _)) rfl ?_ | refine TD.run1 (pure_fieldAddr_own Ty.f33_1 rfl) rfl ?_
  first | refine TD.run1 (pure_fieldAddr Ty.f31_2 rfl (.succ (.succ (.zero _))) (List.cons_ne_nil _ _)) rfl ?_ | refine TD.run1 (pure_fieldAddr_own Ty.f31_2 rfl) rfl ?_
  first | refine TD.run1 (pure_load1 Ty.one28 rfl) rfl ?_ | refine TD.run1 (pure_load1_own Ty.one28 rfl (by repeat (first | exact List.Mem.head _ | apply List.Mem.tail)) (by repeat (first | exact DropR.zero _ | apply DropR.succ))) rfl ?_
  refine TD.run1 (pure_call (cloneDel_spec dl h2) (.cons rfl .nil) Try.call73) rfl ?_
  first | refine TD.run1 (pure_fieldAddr Ty.f33_1 rfl (.succ (.zero _)) (List.cons_ne_nil _ _)) rfl ?_ | refine TD.run1 (pure_fieldAddr_own Ty.f33_1 rfl) rfl ?_
  first | refine TD.run1 (pure_fieldAddr Ty.f31_3 rfl (.succ (.succ (.succ (.zero _)))) (List.cons_ne_nil _ _)) rfl ?_ | refine TD.run1 (pure_fieldAddr_own Ty.f31_3 rfl) rfl ?_
  first | refine TD.run1 (pure_load1 Ty.one29 rfl) rfl ?_ | refine TD.run1 (pure_load1_own Ty.one29 rfl (by repeat (first | exact List.Mem.head _ | apply List.Mem.tail)) (by repeat (first | exact DropR.zero _ | apply DropR.succ))) rfl ?_
  refine TD.run1 (pure_call (cloneLay_spec ly h3) (.cons rfl .nil) Try.call74) rfl ?_
  refine TD.nil ?_
  first | refine TD.run1 (pure_fieldAddr Ty.f33_1 rfl (.succ (.zero _)) (List.cons_ne_nil _ _)) rfl ?_ | refine TD.run1 (pure_fieldAddr_own Ty.f33_1 rfl) rfl ?_
  first | refine TD.run1 (pure_fieldAddr Ty.f31_2 rfl (.succ (.succ (.zero _))) (List.cons_ne_nil _ _)) rfl ?_ | refine TD.run1 (pure_fieldAddr_own Ty.f31_2 rfl) rfl ?_
  refine TD.mute ?_
  first | refine TD.run1 (pure_fieldAddr Ty.f33_1 rfl (.succ (.zero _)) (List.cons_ne_nil _ _)) rfl ?_ | refine TD.run1 (pure_fieldAddr_own Ty.f33_1 rfl) rfl ?_
  first | refine TD.run1 (pure_fieldAddr Ty.f31_3 rfl (.succ (.succ (.succ (.zero _)))) (List.cons_ne_nil _ _)) rfl ?_ | refine TD.run1 (pure_fieldAddr_own Ty.f31_3 rfl) rfl ?_
  refine TD.nil ?_
  refine ⟨⟨_, .right (.left .nil)⟩, fun s hs hb => ?_⟩
  simp only [List.mem_cons, List.not_mem_nil, or_false] at hs
  subst hs
  refine ⟨_, rfl, rfl, fun E eF he hx0 => ?_⟩
  subst he
  refine TL.store ((hx0 (.tmp 16) (by simp [Op.operands, Call.operands])).trans rfl) ((hx0 (.tmp 10) (by simp [Op.operands, Call.operands])).trans rfl) (.one rfl) Try.sizeOf28 rfl (by repeat (first | exact UpdR.here _ | apply UpdR.there)) (by repeat (first | exact PutR.nil _ | apply PutR.here | apply PutR.skip)) ?_
  refine TL.nil ⟨rfl, none, rfl, ?_⟩
  refine ⟨⟨_, SplitR.none _⟩, fun e he => ?_⟩
  subst he
  simp only [List.drop_succ_cons, List.drop_zero]
  refine TL.store rfl rfl (.one (by first | rfl | assumption)) Try.sizeOf29 rfl (by repeat (first | exact UpdR.here _ | apply UpdR.there)) (by repeat (first | exact PutR.nil _ | apply PutR.here | apply PutR.skip)) ?_
  refine TL.nil' ?_
  refine TC.seq ?_
  refine TC.region ?_
  first | refine TL.run1 (pure_load Ty.agg33 rfl (.succ (.succ (.succ (.succ (.succ (.zero _))))))) rfl ?_ | refine TL.run1 (pure_load_own Ty.agg33 rfl (by repeat (first | exact List.Mem.head _ | apply List.Mem.tail)) (by repeat (first | exact DropR.zero _ | apply DropR.succ)) (.succ (.succ (.succ (.succ (.succ (.zero _))))))) rfl ?_
  refine TL.store rfl rfl (.agg _) Try.sizeOf33 rfl (by repeat (first | exact UpdR.here _ | apply UpdR.there)) (by repeat (first | exact PutR.nil _ | apply PutR.here | apply PutR.skip)) ?_
  refine TL.nil' ?_
  refine TC.ret ?_
  exact retF_cell (.inl rfl) Ty.agg33 rfl (by repeat (first | exact List.Mem.head _ | apply List.Mem.tail)) rfl (.same _)
set_option maxRecDepth 100000 in
theorem eachItem_spec (xs : List (List D)) (hx : SlB 11 176 xs) (hf : ∀ x ∈ xs, Fun Try.prog 86 [.agg x] (.agg x)) : Fun Try.prog 85 [.sl 11 xs, .fn 86 []] (.sl 11 xs) := by
  refine Fun.enterF (n := 22) (rs := [.tmp 4]) Try.func85 rfl Try.ntmps85 Try.results85 rfl (fun w F => ?_)
  obtain ⟨he, hbd⟩ := hx
  refine TC.seq ?_
  refine TC.region ?_
  refine TL.run1 (pure_assign rfl) rfl ?_
  refine TL.nil' ?_
  refine TC.seq ?_
  refine TC.region ?_
  refine TL.run1 (pure_assign rfl) rfl ?_
  refine TL.nil' ?_
  refine TC.seq ?_
  refine TC.seq ?_
  refine TC.nilrow 115 11 ?_
  refine TC.region ?_
  refine TL.run1 (pure_move rfl) rfl ?_
  first | refine TL.run1 (pure_len Ty.sl72 rfl) rfl ?_ | refine TL.run1 (pure_len_row Ty.sl72 rfl (by repeat (first | exact List.Mem.head _ | apply List.Mem.tail))) rfl ?_ | refine TL.run1 (pure_len_nil Ty.sl72 rfl) rfl ?_
  refine TL.run1 (pure_move rfl) rfl ?_
  refine TL.nil' ?_
  refine TC.block ?_
  refine TC.loopX (X := Nat × Value) (fun (i, v) => [(1, .fn 86 []), (5, .v v), (8, .sl 11 xs), (9, .v (.int .i64 xs.length)), (10, .v (.int .i64 i))]) (fun (i, v) => [.row v 115 11 (xs.take i)]) (fun (i, v) => (i ≤ xs.length)) (fun (i, v) => xs.length - i) (0, .slice none 0 0) ⟨by skip; repeat (first | exact Agree.nil | refine Agree.cons rfl ?_), by skip; repeat (first | exact List.nil_sublist _ | exact List.Sublist.refl _ | apply List.Sublist.cons_cons | apply List.Sublist.cons)⟩ ?_ ?_
  · skip
    exact Nat.zero_le _
  rintro ⟨i, v⟩
  intro h1
  show TC _ _ _ (Env.of [(1, .fn 86 []), (5, .v v), (8, .sl 11 xs), (9, .v (.int .i64 xs.length)), (10, .v (.int .i64 i))]) [.row v 115 11 (xs.take i)]
  refine TC.seq ?_
  refine TC.region ?_
  refine TL.run1 (pure_lss rfl rfl) rfl ?_
  refine TL.nil' ?_
  refine TC.seq ?_
  first | refine TC.condD rfl (fun hc11 => ?_) (fun hc11 => ?_) | refine TC.condN rfl (fun hc11 => ?_) (fun hc11 => ?_) | refine TC.cond rfl (fun hc11 => ?_) (fun hc11 => ?_)
  · try dsimp only at hc11
    refine TC.skip' ?_
    refine TC.seq ?_
    refine TC.block ?_
    refine TC.seq ?_
    have hil : i < xs.length := by omega
    obtain ⟨x, hx0⟩ : ∃ x, xs[i]? = some x := ⟨_, List.getElem?_eq_getElem hil⟩
    have hxm := List.mem_of_getElem? hx0
    have hfx := hf x hxm
    obtain ⟨a0, a1, a2, a3, a4, a5, a6, a7, a8, a9, a10, rfl⟩ := len11 (he x hxm)
    have hrow : xs[((i : Nat) : Int).toNat]? = some [a0, a1, a2, a3, a4, a5, a6, a7, a8, a9, a10] := by (rw [Int.toNat_natCast]; exact hx0)
    have htk : (xs.take i).length = i := by (rw [List.length_take]; omega)
    refine TC.region ?_
    refine TL.run1 (pure_indexAddr Ty.sl72 rfl rfl (by omega) hrow (List.cons_ne_nil _ _)) rfl ?_
    first | refine TL.run1 (pure_load Ty.agg115 rfl (.succ (.succ (.succ (.succ (.succ (.succ (.succ (.succ (.succ (.succ (.succ (.zero _))))))))))))) rfl ?_ | refine TL.run1 (pure_load_own Ty.agg115 rfl (by repeat (first | exact List.Mem.head _ | apply List.Mem.tail)) (by repeat (first | exact DropR.zero _ | apply DropR.succ)) (.succ (.succ (.succ (.succ (.succ (.succ (.succ (.succ (.succ (.succ (.succ (.zero _))))))))))))) rfl ?_
    refine TL.alloc Ty.zero115 rfl (fun g7 => ?_)
    refine TL.store rfl rfl (.agg _) Try.sizeOf115 rfl (by repeat (first | exact UpdR.here _ | apply UpdR.there)) (by repeat (first | exact PutR.nil _ | apply PutR.here | apply PutR.skip)) ?_
    refine TL.nil' ?_
    refine TC.region ?_
    refine TL.run1 (pure_move rfl) rfl ?_
    refine TL.run1 (pure_move rfl) rfl ?_
    first | refine TL.run1 (pure_load Ty.agg115 rfl (.succ (.succ (.succ (.succ (.succ (.succ (.succ (.succ (.succ (.succ (.succ (.zero _))))))))))))) rfl ?_ | refine TL.run1 (pure_load_own Ty.agg115 rfl (by repeat (first | exact List.Mem.head _ | apply List.Mem.tail)) (by repeat (first | exact DropR.zero _ | apply DropR.succ)) (.succ (.succ (.succ (.succ (.succ (.succ (.succ (.succ (.succ (.succ (.succ (.zero _))))))))))))) rfl ?_
    refine TL.run1 (pure_callv rfl (hfx) (.cons rfl .nil) Try.call86) rfl ?_
    refine TL.run1 (pure_buildSlice (xs := [.tmp 17]) Ty.app72 (by decide) rfl rfl (.cons rfl (.agg _) rfl .nil)) rfl ?_
    refine TL.append Ty.app72 rfl rfl (by intro _; repeat (first | exact UpdR.here _ | apply UpdR.there)) (by simp only [List.length_append, List.length_cons, List.length_nil]; omega) (by simp only [List.length_append, List.length_cons, List.length_nil]; omega) rfl (fun v19 hv19 => ?_)
    refine TL.run1 (pure_assign rfl) rfl ?_
    refine TL.nil ?_
    refine block_normal ?_
    refine then_normal ?_
    refine TC.region ?_
    refine TL.run1 (pure_add rfl rfl (mkI64 (by omega) (by omega))) rfl ?_
    refine TL.run1 (pure_move rfl) rfl ?_
    refine TL.nil ?_
    refine loop_next (i + 1, v19) ⟨by ((try dsimp only); rw [show (((i + 1 : Nat)) : Int) = (i : Int) + 1 by omega]; repeat (first | exact Agree.nil | refine Agree.cons rfl ?_)), by (try dsimp only); rw [take_next hx0]; repeat (first | exact List.nil_sublist _ | exact List.Sublist.refl _ | apply List.Sublist.cons_cons | apply List.Sublist.cons)⟩ (show i + 1 ≤ _ by omega) (by (try dsimp only); omega)
  · try dsimp only at hc11
    refine TC.exit ?_
    refine then_exit ?_
    refine loop_exit ?_
    refine block_here ?_
    refine then_normal ?_
    refine TC.seq ?_
    refine TC.region ?_
    refine TL.run1 (pure_move rfl) rfl ?_
    refine TL.run1 (pure_assign rfl) rfl ?_
    refine TL.nil' ?_
    refine TC.ret ?_
    have hie : i = xs.length := by omega
    subst hie
    rw [List.take_length]
    exact retF_row rfl (by repeat (first | exact List.Mem.head _ | apply List.Mem.tail)) (by decide) he rfl
set_option maxRecDepth 100000 in
theorem eachRow_spec (xs : List (List D)) (hx : SlB 6 112 xs) (hf : ∀ x ∈ xs, Fun Try.prog 56 [.agg x] (.agg x)) : Fun Try.prog 87 [.sl 6 xs, .fn 56 []] (.sl 6 xs) := by
  refine Fun.enterF (n := 22) (rs := [.tmp 4]) Try.func87 rfl Try.ntmps87 Try.results87 rfl (fun w F => ?_)
  obtain ⟨he, hbd⟩ := hx
  refine TC.seq ?_
  refine TC.region ?_
  refine TL.run1 (pure_assign rfl) rfl ?_
  refine TL.nil' ?_
  refine TC.seq ?_
  refine TC.region ?_
  refine TL.run1 (pure_assign rfl) rfl ?_
  refine TL.nil' ?_
  refine TC.seq ?_
  refine TC.seq ?_
  refine TC.nilrow 36 6 ?_
  refine TC.region ?_
  refine TL.run1 (pure_move rfl) rfl ?_
  first | refine TL.run1 (pure_len Ty.sl22 rfl) rfl ?_ | refine TL.run1 (pure_len_row Ty.sl22 rfl (by repeat (first | exact List.Mem.head _ | apply List.Mem.tail))) rfl ?_ | refine TL.run1 (pure_len_nil Ty.sl22 rfl) rfl ?_
  refine TL.run1 (pure_move rfl) rfl ?_
  refine TL.nil' ?_
  refine TC.block ?_
  refine TC.loopX (X := Nat × Value) (fun (i, v) => [(1, .fn 56 []), (5, .v v), (8, .sl 6 xs), (9, .v (.int .i64 xs.length)), (10, .v (.int .i64 i))]) (fun (i, v) => [.row v 36 6 (xs.take i)]) (fun (i, v) => (i ≤ xs.length)) (fun (i, v) => xs.length - i) (0, .slice none 0 0) ⟨by skip; repeat (first | exact Agree.nil | refine Agree.cons rfl ?_), by skip; repeat (first | exact List.nil_sublist _ | exact List.Sublist.refl _ | apply List.Sublist.cons_cons | apply List.Sublist.cons)⟩ ?_ ?_
  · skip
    exact Nat.zero_le _
  rintro ⟨i, v⟩
  intro h1
  show TC _ _ _ (Env.of [(1, .fn 56 []), (5, .v v), (8, .sl 6 xs), (9, .v (.int .i64 xs.length)), (10, .v (.int .i64 i))]) [.row v 36 6 (xs.take i)]
  refine TC.seq ?_
  refine TC.region ?_
  refine TL.run1 (pure_lss rfl rfl) rfl ?_
  refine TL.nil' ?_
  refine TC.seq ?_
  first | refine TC.condD rfl (fun hc11 => ?_) (fun hc11 => ?_) | refine TC.condN rfl (fun hc11 => ?_) (fun hc11 => ?_) | refine TC.cond rfl (fun hc11 => ?_) (fun hc11 => ?_)
  · try dsimp only at hc11
    refine TC.skip' ?_
    refine TC.seq ?_
    refine TC.block ?_
    refine TC.seq ?_
    have hil : i < xs.length := by omega
    obtain ⟨x, hx0⟩ : ∃ x, xs[i]? = some x := ⟨_, List.getElem?_eq_getElem hil⟩
    have hxm := List.mem_of_getElem? hx0
    have hfx := hf x hxm
    obtain ⟨a0, a1, a2, a3, a4, a5, rfl⟩ := len6 (he x hxm)
    have hrow : xs[((i : Nat) : Int).toNat]? = some [a0, a1, a2, a3, a4, a5] := by (rw [Int.toNat_natCast]; exact hx0)
    have htk : (xs.take i).length = i := by (rw [List.length_take]; omega)
    refine TC.region ?_
    refine TL.run1 (pure_indexAddr Ty.sl22 rfl rfl (by omega) hrow (List.cons_ne_nil _ _)) rfl ?_
    first | refine TL.run1 (pure_load Ty.agg36 rfl (.succ (.succ (.succ (.succ (.succ (.succ (.zero _)))))))) rfl ?_ | refine TL.run1 (pure_load_own Ty.agg36 rfl (by repeat (first | exact List.Mem.head _ | apply List.Mem.tail)) (by repeat (first | exact DropR.zero _ | apply DropR.succ)) (.succ (.succ (.succ (.succ (.succ (.succ (.zero _)))))))) rfl ?_
    refine TL.alloc Ty.zero36 rfl (fun g7 => ?_)
    refine TL.store rfl rfl (.agg _) Try.sizeOf36 rfl (by repeat (first | exact UpdR.here _ | apply UpdR.there)) (by repeat (first | exact PutR.nil _ | apply PutR.here | apply PutR.skip)) ?_
    refine TL.nil' ?_
    refine TC.region ?_
    refine TL.run1 (pure_move rfl) rfl ?_
    refine TL.run1 (pure_move rfl) rfl ?_
    first | refine TL.run1 (pure_load Ty.agg36 rfl (.succ (.succ (.succ (.succ (.succ (.succ (.zero _)))))))) rfl ?_ | refine TL.run1 (pure_load_own Ty.agg36 rfl (by repeat (first | exact List.Mem.head _ | apply List.Mem.tail)) (by repeat (first | exact DropR.zero _ | apply DropR.succ)) (.succ (.succ (.succ (.succ (.succ (.succ (.zero _)))))))) rfl ?_
    refine TL.run1 (pure_callv rfl (hfx) (.cons rfl .nil) Try.call56) rfl ?_
    refine TL.run1 (pure_buildSlice (xs := [.tmp 17]) Ty.app22 (by decide) rfl rfl (.cons rfl (.agg _) rfl .nil)) rfl ?_
    refine TL.append Ty.app22 rfl rfl (by intro _; repeat (first | exact UpdR.here _ | apply UpdR.there)) (by simp only [List.length_append, List.length_cons, List.length_nil]; omega) (by simp only [List.length_append, List.length_cons, List.length_nil]; omega) rfl (fun v19 hv19 => ?_)
    refine TL.run1 (pure_assign rfl) rfl ?_
    refine TL.nil ?_
    refine block_normal ?_
    refine then_normal ?_
    refine TC.region ?_
    refine TL.run1 (pure_add rfl rfl (mkI64 (by omega) (by omega))) rfl ?_
    refine TL.run1 (pure_move rfl) rfl ?_
    refine TL.nil ?_
    refine loop_next (i + 1, v19) ⟨by ((try dsimp only); rw [show (((i + 1 : Nat)) : Int) = (i : Int) + 1 by omega]; repeat (first | exact Agree.nil | refine Agree.cons rfl ?_)), by (try dsimp only); rw [take_next hx0]; repeat (first | exact List.nil_sublist _ | exact List.Sublist.refl _ | apply List.Sublist.cons_cons | apply List.Sublist.cons)⟩ (show i + 1 ≤ _ by omega) (by (try dsimp only); omega)
  · try dsimp only at hc11
    refine TC.exit ?_
    refine then_exit ?_
    refine loop_exit ?_
    refine block_here ?_
    refine then_normal ?_
    refine TC.seq ?_
    refine TC.region ?_
    refine TL.run1 (pure_move rfl) rfl ?_
    refine TL.run1 (pure_assign rfl) rfl ?_
    refine TL.nil' ?_
    refine TC.ret ?_
    have hie : i = xs.length := by omega
    subst hie
    rw [List.take_length]
    exact retF_row rfl (by repeat (first | exact List.Mem.head _ | apply List.Mem.tail)) (by decide) he rfl
set_option maxRecDepth 100000 in
theorem eachCell_spec (xs : List (List D)) (hx : SlB 7 120 xs) (hf : ∀ x ∈ xs, Fun Try.prog 65 [.agg x] (.agg x)) : Fun Try.prog 64 [.sl 7 xs, .fn 65 []] (.sl 7 xs) := by
  refine Fun.enterF (n := 22) (rs := [.tmp 4]) Try.func64 rfl Try.ntmps64 Try.results64 rfl (fun w F => ?_)
  obtain ⟨he, hbd⟩ := hx
  refine TC.seq ?_
  refine TC.region ?_
  refine TL.run1 (pure_assign rfl) rfl ?_
  refine TL.nil' ?_
  refine TC.seq ?_
  refine TC.region ?_
  refine TL.run1 (pure_assign rfl) rfl ?_
  refine TL.nil' ?_
  refine TC.seq ?_
  refine TC.seq ?_
  refine TC.nilrow 74 7 ?_
  refine TC.region ?_
  refine TL.run1 (pure_move rfl) rfl ?_
  first | refine TL.run1 (pure_len Ty.sl34 rfl) rfl ?_ | refine TL.run1 (pure_len_row Ty.sl34 rfl (by repeat (first | exact List.Mem.head _ | apply List.Mem.tail))) rfl ?_ | refine TL.run1 (pure_len_nil Ty.sl34 rfl) rfl ?_
  refine TL.run1 (pure_move rfl) rfl ?_
  refine TL.nil' ?_
  refine TC.block ?_
  refine TC.loopX (X := Nat × Value) (fun (i, v) => [(1, .fn 65 []), (5, .v v), (8, .sl 7 xs), (9, .v (.int .i64 xs.length)), (10, .v (.int .i64 i))]) (fun (i, v) => [.row v 74 7 (xs.take i)]) (fun (i, v) => (i ≤ xs.length)) (fun (i, v) => xs.length - i) (0, .slice none 0 0) ⟨by skip; repeat (first | exact Agree.nil | refine Agree.cons rfl ?_), by skip; repeat (first | exact List.nil_sublist _ | exact List.Sublist.refl _ | apply List.Sublist.cons_cons | apply List.Sublist.cons)⟩ ?_ ?_
  · skip
    exact Nat.zero_le _
  rintro ⟨i, v⟩
  intro h1
  show TC _ _ _ (Env.of [(1, .fn 65 []), (5, .v v), (8, .sl 7 xs), (9, .v (.int .i64 xs.length)), (10, .v (.int .i64 i))]) [.row v 74 7 (xs.take i)]
  refine TC.seq ?_
  refine TC.region ?_
  refine TL.run1 (pure_lss rfl rfl) rfl ?_
  refine TL.nil' ?_
  refine TC.seq ?_
  first | refine TC.condD rfl (fun hc11 => ?_) (fun hc11 => ?_) | refine TC.condN rfl (fun hc11 => ?_) (fun hc11 => ?_) | refine TC.cond rfl (fun hc11 => ?_) (fun hc11 => ?_)
  · try dsimp only at hc11
    refine TC.skip' ?_
    refine TC.seq ?_
    refine TC.block ?_
    refine TC.seq ?_
    have hil : i < xs.length := by omega
    obtain ⟨x, hx0⟩ : ∃ x, xs[i]? = some x := ⟨_, List.getElem?_eq_getElem hil⟩
    have hxm := List.mem_of_getElem? hx0
    have hfx := hf x hxm
    obtain ⟨a0, a1, a2, a3, a4, a5, a6, rfl⟩ := len7 (he x hxm)
    have hrow : xs[((i : Nat) : Int).toNat]? = some [a0, a1, a2, a3, a4, a5, a6] := by (rw [Int.toNat_natCast]; exact hx0)
    have htk : (xs.take i).length = i := by (rw [List.length_take]; omega)
    refine TC.region ?_
    refine TL.run1 (pure_indexAddr Ty.sl34 rfl rfl (by omega) hrow (List.cons_ne_nil _ _)) rfl ?_
    first | refine TL.run1 (pure_load Ty.agg74 rfl (.succ (.succ (.succ (.succ (.succ (.succ (.succ (.zero _))))))))) rfl ?_ | refine TL.run1 (pure_load_own Ty.agg74 rfl (by repeat (first | exact List.Mem.head _ | apply List.Mem.tail)) (by repeat (first | exact DropR.zero _ | apply DropR.succ)) (.succ (.succ (.succ (.succ (.succ (.succ (.succ (.zero _))))))))) rfl ?_
    refine TL.alloc Ty.zero74 rfl (fun g7 => ?_)
    refine TL.store rfl rfl (.agg _) Try.sizeOf74 rfl (by repeat (first | exact UpdR.here _ | apply UpdR.there)) (by repeat (first | exact PutR.nil _ | apply PutR.here | apply PutR.skip)) ?_
    refine TL.nil' ?_
    refine TC.region ?_
    refine TL.run1 (pure_move rfl) rfl ?_
    refine TL.run1 (pure_move rfl) rfl ?_
    first | refine TL.run1 (pure_load Ty.agg74 rfl (.succ (.succ (.succ (.succ (.succ (.succ (.succ (.zero _))))))))) rfl ?_ | refine TL.run1 (pure_load_own Ty.agg74 rfl (by repeat (first | exact List.Mem.head _ | apply List.Mem.tail)) (by repeat (first | exact DropR.zero _ | apply DropR.succ)) (.succ (.succ (.succ (.succ (.succ (.succ (.succ (.zero _))))))))) rfl ?_
    refine TL.run1 (pure_callv rfl (hfx) (.cons rfl .nil) Try.call65) rfl ?_
    refine TL.run1 (pure_buildSlice (xs := [.tmp 17]) Ty.app34 (by decide) rfl rfl (.cons rfl (.agg _) rfl .nil)) rfl ?_
    refine TL.append Ty.app34 rfl rfl (by intro _; repeat (first | exact UpdR.here _ | apply UpdR.there)) (by simp only [List.length_append, List.length_cons, List.length_nil]; omega) (by simp only [List.length_append, List.length_cons, List.length_nil]; omega) rfl (fun v19 hv19 => ?_)
    refine TL.run1 (pure_assign rfl) rfl ?_
    refine TL.nil ?_
    refine block_normal ?_
    refine then_normal ?_
    refine TC.region ?_
    refine TL.run1 (pure_add rfl rfl (mkI64 (by omega) (by omega))) rfl ?_
    refine TL.run1 (pure_move rfl) rfl ?_
    refine TL.nil ?_
    refine loop_next (i + 1, v19) ⟨by ((try dsimp only); rw [show (((i + 1 : Nat)) : Int) = (i : Int) + 1 by omega]; repeat (first | exact Agree.nil | refine Agree.cons rfl ?_)), by (try dsimp only); rw [take_next hx0]; repeat (first | exact List.nil_sublist _ | exact List.Sublist.refl _ | apply List.Sublist.cons_cons | apply List.Sublist.cons)⟩ (show i + 1 ≤ _ by omega) (by (try dsimp only); omega)
  · try dsimp only at hc11
    refine TC.exit ?_
    refine then_exit ?_
    refine loop_exit ?_
    refine block_here ?_
    refine then_normal ?_
    refine TC.seq ?_
    refine TC.region ?_
    refine TL.run1 (pure_move rfl) rfl ?_
    refine TL.run1 (pure_assign rfl) rfl ?_
    refine TL.nil' ?_
    refine TC.ret ?_
    have hie : i = xs.length := by omega
    subst hie
    rw [List.take_length]
    exact retF_row rfl (by repeat (first | exact List.Mem.head _ | apply List.Mem.tail)) (by decide) he rfl
set_option maxRecDepth 100000 in
theorem eachCellD_spec (xs : List (List D)) (hx : SlB 7 120 xs) (hf : ∀ x ∈ xs, Fun Try.prog 65 [.agg x] (.agg x)) : CallD Try.prog 64 [.sl 7 xs, .fn 65 []] [] (fun r H' => ∃ v, r = .v v ∧ H' = [.row v 74 7 xs]) := by
  refine CallD.enter (n := 22) (rs := [.tmp 4]) Try.func64 rfl Try.ntmps64 Try.results64 rfl (fun w F => ?_)
  obtain ⟨he, hbd⟩ := hx
  refine TC.seq ?_
  refine TC.region ?_
  refine TL.run1 (pure_assign rfl) rfl ?_
  refine TL.nil' ?_
  refine TC.seq ?_
  refine TC.region ?_
  refine TL.run1 (pure_assign rfl) rfl ?_
  refine TL.nil' ?_
  refine TC.seq ?_
  refine TC.seq ?_
  refine TC.nilrow 74 7 ?_
  refine TC.region ?_
  refine TL.run1 (pure_move rfl) rfl ?_
  first | refine TL.run1 (pure_len Ty.sl34 rfl) rfl ?_ | refine TL.run1 (pure_len_row Ty.sl34 rfl (by repeat (first | exact List.Mem.head _ | apply List.Mem.tail))) rfl ?_ | refine TL.run1 (pure_len_nil Ty.sl34 rfl) rfl ?_
  refine TL.run1 (pure_move rfl) rfl ?_
  refine TL.nil' ?_
  refine TC.block ?_
  refine TC.loopX (X := Nat × Value) (fun (i, v) => [(1, .fn 65 []), (5, .v v), (8, .sl 7 xs), (9, .v (.int .i64 xs.length)), (10, .v (.int .i64 i))]) (fun (i, v) => [.row v 74 7 (xs.take i)]) (fun (i, v) => (i ≤ xs.length)) (fun (i, v) => xs.length - i) (0, .slice none 0 0) ⟨by skip; repeat (first | exact Agree.nil | refine Agree.cons rfl ?_), by skip; repeat (first | exact List.nil_sublist _ | exact List.Sublist.refl _ | apply List.Sublist.cons_cons | apply List.Sublist.cons)⟩ ?_ ?_
  · skip
    exact Nat.zero_le _
  rintro ⟨i, v⟩
  intro h1
  show TC _ _ _ (Env.of [(1, .fn 65 []), (5, .v v), (8, .sl 7 xs), (9, .v (.int .i64 xs.length)), (10, .v (.int .i64 i))]) [.row v 74 7 (xs.take i)]
  refine TC.seq ?_
  refine TC.region ?_
  refine TL.run1 (pure_lss rfl rfl) rfl ?_
  refine TL.nil' ?_
  refine TC.seq ?_
  first | refine TC.condD rfl (fun hc11 => ?_) (fun hc11 => ?_) | refine TC.condN rfl (fun hc11 => ?_) (fun hc11 => ?_) | refine TC.cond rfl (fun hc11 => ?_) (fun hc11 => ?_)
  · try dsimp only at hc11
    refine TC.skip' ?_
    refine TC.seq ?_
    refine TC.block ?_
    refine TC.seq ?_
    have hil : i < xs.length := by omega
    obtain ⟨x, hx0⟩ : ∃ x, xs[i]? = some x := ⟨_, List.getElem?_eq_getElem hil⟩
    have hxm := List.mem_of_getElem? hx0
    have hfx := hf x hxm
    obtain ⟨a0, a1, a2, a3, a4, a5, a6, rfl⟩ := len7 (he x hxm)
    have hrow : xs[((i : Nat) : Int).toNat]? = some [a0, a1, a2, a3, a4, a5, a6] := by (rw [Int.toNat_natCast]; exact hx0)
    have htk : (xs.take i).length = i := by (rw [List.length_take]; omega)
    refine TC.region ?_
    refine TL.run1 (pure_indexAddr Ty.sl34 rfl rfl (by omega) hrow (List.cons_ne_nil _ _)) rfl ?_
    first | refine TL.run1 (pure_load Ty.agg74 rfl (.succ (.succ (.succ (.succ (.succ (.succ (.succ (.zero _))))))))) rfl ?_ | refine TL.run1 (pure_load_own Ty.agg74 rfl (by repeat (first | exact List.Mem.head _ | apply List.Mem.tail)) (by repeat (first | exact DropR.zero _ | apply DropR.succ)) (.succ (.succ (.succ (.succ (.succ (.succ (.succ (.zero _))))))))) rfl ?_
    refine TL.alloc Ty.zero74 rfl (fun g7 => ?_)
    refine TL.store rfl rfl (.agg _) Try.sizeOf74 rfl (by repeat (first | exact UpdR.here _ | apply UpdR.there)) (by repeat (first | exact PutR.nil _ | apply PutR.here | apply PutR.skip)) ?_
    refine TL.nil' ?_
    refine TC.region ?_
    refine TL.run1 (pure_move rfl) rfl ?_
    refine TL.run1 (pure_move rfl) rfl ?_
    first | refine TL.run1 (pure_load Ty.agg74 rfl (.succ (.succ (.succ (.succ (.succ (.succ (.succ (.zero _))))))))) rfl ?_ | refine TL.run1 (pure_load_own Ty.agg74 rfl (by repeat (first | exact List.Mem.head _ | apply List.Mem.tail)) (by repeat (first | exact DropR.zero _ | apply DropR.succ)) (.succ (.succ (.succ (.succ (.succ (.succ (.succ (.zero _))))))))) rfl ?_
    refine TL.run1 (pure_callv rfl (hfx) (.cons rfl .nil) Try.call65) rfl ?_
    refine TL.run1 (pure_buildSlice (xs := [.tmp 17]) Ty.app34 (by decide) rfl rfl (.cons rfl (.agg _) rfl .nil)) rfl ?_
    refine TL.append Ty.app34 rfl rfl (by intro _; repeat (first | exact UpdR.here _ | apply UpdR.there)) (by simp only [List.length_append, List.length_cons, List.length_nil]; omega) (by simp only [List.length_append, List.length_cons, List.length_nil]; omega) rfl (fun v19 hv19 => ?_)
    refine TL.run1 (pure_assign rfl) rfl ?_
    refine TL.nil ?_
    refine block_normal ?_
    refine then_normal ?_
    refine TC.region ?_
    refine TL.run1 (pure_add rfl rfl (mkI64 (by omega) (by omega))) rfl ?_
    refine TL.run1 (pure_move rfl) rfl ?_
    refine TL.nil ?_
    refine loop_next (i + 1, v19) ⟨by ((try dsimp only); rw [show (((i + 1 : Nat)) : Int) = (i : Int) + 1 by omega]; repeat (first | exact Agree.nil | refine Agree.cons rfl ?_)), by (try dsimp only); rw [take_next hx0]; repeat (first | exact List.nil_sublist _ | exact List.Sublist.refl _ | apply List.Sublist.cons_cons | apply List.Sublist.cons)⟩ (show i + 1 ≤ _ by omega) (by (try dsimp only); omega)
  · try dsimp only at hc11
    refine TC.exit ?_
    refine then_exit ?_
    refine loop_exit ?_
    refine block_here ?_
    refine then_normal ?_
    refine TC.seq ?_
    refine TC.region ?_
    refine TL.run1 (pure_move rfl) rfl ?_
    refine TL.run1 (pure_assign rfl) rfl ?_
    refine TL.nil' ?_
    refine TC.ret ?_
    have hie : i = xs.length := by omega
    subst hie
    rw [List.take_length]
    exact retRow rfl (by repeat (first | exact List.Mem.head _ | apply List.Mem.tail)) rfl
set_option maxRecDepth 100000 in
theorem CloneFlow_spec (xs : List (List D)) (hx : SlB 11 176 xs) (hf : ∀ x ∈ xs, Fun Try.prog 86 [.agg x] (.agg x)) : Fun Try.prog 75 [.sl 11 xs] (.sl 11 xs) := by
  refine Fun.enter (n := 5) (rs := [.tmp 2]) Try.func75 rfl Try.ntmps75 Try.results75 rfl (fun w F => ?_)
  refine TC.seq ?_
  refine TC.region ?_
  refine TL.run1 (pure_assign rfl) rfl ?_
  refine TL.nil' ?_
  refine TC.seq ?_
  refine TC.region ?_
  refine TL.run1 (pure_move rfl) rfl ?_
  refine TL.run1 (pure_call (eachItem_spec xs hx hf) (.cons rfl (.cons rfl .nil)) Try.call85) rfl ?_
  refine TL.run1 (pure_assign rfl) rfl ?_
  refine TL.nil' ?_
  refine TC.ret ?_
  exact ret_sl rfl rfl
set_option maxRecDepth 100000 in
theorem CloneCell_spec (I : List D → Prop) (hI : ∀ x, I x → Fun Try.prog 86 [.agg x] (.agg x)) (ds : List D) (h : CellB I ds) : Fun Try.prog 65 [.agg ds] (.agg ds) := by
  obtain ⟨id, hd, fl, rfl, h1, h2, h3⟩ := h
  obtain ⟨a0, a1, a2, a3, a4, rfl⟩ := len5 h1.len
  refine Fun.enterF (n := 12) (rs := [.cell 2 74]) Try.func65 rfl Try.ntmps65 Try.results65 rfl (fun w F => ?_)
  refine TC.seq ?_
  refine TC.region ?_
  refine TL.box rfl (.agg _) rfl (fun g1 => ?_)
  refine TL.alloc Ty.zero74 rfl (fun g2 => ?_)
  refine TL.nil' ?_
  refine TC.seq ?_
  refine TC.freezeBox 1 (List.cons_ne_nil _ _) (.there _ (.here _)) rfl ?_
  refine TC.drawTailN 9 Ty.follows (by kernel_rfl) (by kernel_rfl) ?_
  simp only [List.take_succ_cons, List.take_zero, List.drop_succ_cons, List.drop_zero]
  first | refine TD.run1 (pure_fieldAddr Ty.f74_0 rfl (.zero _) (List.cons_ne_nil _ _)) rfl ?_ | refine TD.run1 (pure_fieldAddr_own Ty.f74_0 rfl) rfl ?_
  first | refine TD.run1 (pure_load1 Ty.one3 rfl) rfl ?_ | refine TD.run1 (pure_load1_own Ty.one3 rfl (by repeat (first | exact List.Mem.head _ | apply List.Mem.tail)) (by repeat (first | exact DropR.zero _ | apply DropR.succ))) rfl ?_
  first | refine TD.run1 (pure_fieldAddr Ty.f74_1 rfl (.succ (.zero _)) (List.cons_ne_nil _ _)) rfl ?_ | refine TD.run1 (pure_fieldAddr_own Ty.f74_1 rfl) rfl ?_
  first | refine TD.run1 (pure_load Ty.agg33 rfl (.succ (.succ (.succ (.succ (.succ (.zero _))))))) rfl ?_ | refine TD.run1 (pure_load_own Ty.agg33 rfl (by repeat (first | exact List.Mem.head _ | apply List.Mem.tail)) (by repeat (first | exact DropR.zero _ | apply DropR.succ)) (.succ (.succ (.succ (.succ (.succ (.zero _))))))) rfl ?_
  refine TD.run1 (pure_call (CloneHead_spec _ h1) (.cons rfl .nil) Try.call63) rfl ?_
  first | refine TD.run1 (pure_fieldAddr Ty.f74_2 rfl (.succ (.succ (.succ (.succ (.succ (.succ (.zero _))))))) (List.cons_ne_nil _ _)) rfl ?_ | refine TD.run1 (pure_fieldAddr_own Ty.f74_2 rfl) rfl ?_
  first | refine TD.run1 (pure_load1 Ty.one72 rfl) rfl ?_ | refine TD.run1 (pure_load1_own Ty.one72 rfl (by repeat (first | exact List.Mem.head _ | apply List.Mem.tail)) (by repeat (first | exact DropR.zero _ | apply DropR.succ))) rfl ?_
  refine TD.run1 (pure_call (CloneFlow_spec fl h2 (fun x hx => hI x (h3 x hx))) (.cons rfl .nil) Try.call75) rfl ?_
  refine TD.run1 (pure_build Ty.pl74 Ty.zero74 (.cons rfl rfl (.one rfl) rfl (.here (.nil _)) (.cons rfl rfl (.agg _) rfl (.skip (.here (.here (.here (.here (.here (.nil _))))))) (.cons rfl rfl (.one rfl) rfl (.skip (.skip (.skip (.skip (.skip (.skip (.here (.nil _)))))))) (.nil _))))) rfl ?_
  refine TD.nil ?_
  show TL _ _ _ _ _ _
  refine TL.store rfl rfl (.agg _) Try.sizeOf74 rfl (by repeat (first | exact UpdR.here _ | apply UpdR.there)) (by repeat (first | exact PutR.nil _ | apply PutR.here | apply PutR.skip)) ?_
  refine TL.nil' ?_
  refine TC.ret ?_
  exact retF_cell (.inl rfl) Ty.agg74 rfl (by repeat (first | exact List.Mem.head _ | apply List.Mem.tail)) rfl (.same _)
set_option maxRecDepth 100000 in
theorem CloneRow_spec (I : List D → Prop) (hI : ∀ x, I x → Fun Try.prog 86 [.agg x] (.agg x)) (ds : List D) (h : RowB I ds) : Fun Try.prog 56 [.agg ds] (.agg ds) := by
  obtain ⟨hd, cs, rfl, h1, h2, h3⟩ := h
  obtain ⟨a0, a1, a2, a3, a4, rfl⟩ := len5 h1.len
  refine Fun.enterF (n := 10) (rs := [.cell 2 36]) Try.func56 rfl Try.ntmps56 Try.results56 rfl (fun w F => ?_)
  refine TC.seq ?_
  refine TC.region ?_
  refine TL.box rfl (.agg _) rfl (fun g1 => ?_)
  refine TL.alloc Ty.zero36 rfl (fun g2 => ?_)
  refine TL.nil' ?_
  refine TC.seq ?_
  refine TC.freezeBox 1 (List.cons_ne_nil _ _) (.there _ (.here _)) rfl ?_
  refine TC.drawTailN 7 Ty.follows (by kernel_rfl) (by kernel_rfl) ?_
  simp only [List.take_succ_cons, List.take_zero, List.drop_succ_cons, List.drop_zero]
  first | refine TD.run1 (pure_fieldAddr Ty.f36_0 rfl (.zero _) (List.cons_ne_nil _ _)) rfl ?_ | refine TD.run1 (pure_fieldAddr_own Ty.f36_0 rfl) rfl ?_
  first | refine TD.run1 (pure_load Ty.agg33 rfl (.succ (.succ (.succ (.succ (.succ (.zero _))))))) rfl ?_ | refine TD.run1 (pure_load_own Ty.agg33 rfl (by repeat (first | exact List.Mem.head _ | apply List.Mem.tail)) (by repeat (first | exact DropR.zero _ | apply DropR.succ)) (.succ (.succ (.succ (.succ (.succ (.zero _))))))) rfl ?_
  refine TD.run1 (pure_call (CloneHead_spec _ h1) (.cons rfl .nil) Try.call63) rfl ?_
  first | refine TD.run1 (pure_fieldAddr Ty.f36_1 rfl (.succ (.succ (.succ (.succ (.succ (.zero _)))))) (List.cons_ne_nil _ _)) rfl ?_ | refine TD.run1 (pure_fieldAddr_own Ty.f36_1 rfl) rfl ?_
  first | refine TD.run1 (pure_load1 Ty.one34 rfl) rfl ?_ | refine TD.run1 (pure_load1_own Ty.one34 rfl (by repeat (first | exact List.Mem.head _ | apply List.Mem.tail)) (by repeat (first | exact DropR.zero _ | apply DropR.succ))) rfl ?_
  refine TD.run1 (pure_call (eachCell_spec cs h2 (fun x hx => CloneCell_spec I hI x (h3 x hx))) (.cons rfl (.cons rfl .nil)) Try.call64) rfl ?_
  refine TD.run1 (pure_build Ty.pl36 Ty.zero36 (.cons rfl rfl (.agg _) rfl (.here (.here (.here (.here (.here (.nil _)))))) (.cons rfl rfl (.one rfl) rfl (.skip (.skip (.skip (.skip (.skip (.here (.nil _))))))) (.nil _)))) rfl ?_
  refine TD.nil ?_
  show TL _ _ _ _ _ _
  refine TL.store rfl rfl (.agg _) Try.sizeOf36 rfl (by repeat (first | exact UpdR.here _ | apply UpdR.there)) (by repeat (first | exact PutR.nil _ | apply PutR.here | apply PutR.skip)) ?_
  refine TL.nil' ?_
  refine TC.ret ?_
  exact retF_cell (.inl rfl) Ty.agg36 rfl (by repeat (first | exact List.Mem.head _ | apply List.Mem.tail)) rfl (.same _)
set_option maxRecDepth 100000 in
theorem CloneItem0_spec (a b c : Int) (s : ByteArray) (hd : List D) (fl rs : List (List D)) (h1 : HeadB hd) (h2 : SlB 11 176 fl) (h3 : SlB 6 112 rs) (hfl : ∀ x ∈ fl, Fun Try.prog 86 [.agg x] (.agg x)) (hrs : ∀ x ∈ rs, Fun Try.prog 56 [.agg x] (.agg x)) : Fun Try.prog 86 [.agg (.v (.int .i64 a) :: .v (.int .i64 b) :: .v (.int .i64 c) :: .v (.string s) :: (hd ++ [.sl 11 fl, .sl 6 rs]))] (.agg (.v (.int .i64 a) :: .v (.int .i64 b) :: .v (.int .i64 c) :: .v (.string s) :: (hd ++ [.sl 11 fl, .sl 6 rs]))) := by
  obtain ⟨a0, a1, a2, a3, a4, rfl⟩ := len5 h1.len
  refine Fun.enterF (n := 16) (rs := [.cell 2 115]) Try.func86 rfl Try.ntmps86 Try.results86 rfl (fun w F => ?_)
  refine TC.seq ?_
  refine TC.region ?_
  refine TL.box rfl (.agg _) rfl (fun g1 => ?_)
  refine TL.alloc Ty.zero115 rfl (fun g2 => ?_)
  refine TL.nil' ?_
  refine TC.seq ?_
  refine TC.drawSq 14 9 1 [10, 12] [Blk.box g1 115 [.v (.int .i64 a), .v (.int .i64 b), .v (.int .i64 c), .v (.string s), a0, a1, a2, a3, a4, .sl 11 fl, .sl 6 rs]] [] Ty.follows (by decide) rfl (by kernel_rfl) (by kernel_rfl) (by kernel_rfl) (by kernel_rfl) (SplitR.none _) ?_
  first | refine TD.run1 (pure_fieldAddr Ty.f115_4 rfl (.succ (.succ (.succ (.succ (.zero _))))) (List.cons_ne_nil _ _)) rfl ?_ | refine TD.run1 (pure_fieldAddr_own Ty.f115_4 rfl) rfl ?_
  first | refine TD.run1 (pure_load Ty.agg33 rfl (.succ (.succ (.succ (.succ (.succ (.zero _))))))) rfl ?_ | refine TD.run1 (pure_load_own Ty.agg33 rfl (by repeat (first | exact List.Mem.head _ | apply List.Mem.tail)) (by repeat (first | exact DropR.zero _ | apply DropR.succ)) (.succ (.succ (.succ (.succ (.succ (.zero _))))))) rfl ?_
  refine TD.run1 (pure_call (CloneHead_spec _ h1) (.cons rfl .nil) Try.call63) rfl ?_
  first | refine TD.run1 (pure_fieldAddr Ty.f115_5 rfl (.succ (.succ (.succ (.succ (.succ (.succ (.succ (.succ (.succ (.zero _)))))))))) (List.cons_ne_nil _ _)) rfl ?_ | refine TD.run1 (pure_fieldAddr_own Ty.f115_5 rfl) rfl ?_
  first | refine TD.run1 (pure_load1 Ty.one72 rfl) rfl ?_ | refine TD.run1 (pure_load1_own Ty.one72 rfl (by repeat (first | exact List.Mem.head _ | apply List.Mem.tail)) (by repeat (first | exact DropR.zero _ | apply DropR.succ))) rfl ?_
  refine TD.run1 (pure_call (CloneFlow_spec fl h2 hfl) (.cons rfl .nil) Try.call75) rfl ?_
  first | refine TD.run1 (pure_fieldAddr Ty.f115_6 rfl (.succ (.succ (.succ (.succ (.succ (.succ (.succ (.succ (.succ (.succ (.zero _))))))))))) (List.cons_ne_nil _ _)) rfl ?_ | refine TD.run1 (pure_fieldAddr_own Ty.f115_6 rfl) rfl ?_
  first | refine TD.run1 (pure_load1 Ty.one22 rfl) rfl ?_ | refine TD.run1 (pure_load1_own Ty.one22 rfl (by repeat (first | exact List.Mem.head _ | apply List.Mem.tail)) (by repeat (first | exact DropR.zero _ | apply DropR.succ))) rfl ?_
  refine TD.run1 (pure_call (eachRow_spec rs h3 hrs) (.cons rfl (.cons rfl .nil)) Try.call87) rfl ?_
  refine TD.nil ?_
  first | refine TD.run1 (pure_fieldAddr Ty.f115_4 rfl (.succ (.succ (.succ (.succ (.zero _))))) (List.cons_ne_nil _ _)) rfl ?_ | refine TD.run1 (pure_fieldAddr_own Ty.f115_4 rfl) rfl ?_
  refine TD.mute ?_
  first | refine TD.run1 (pure_fieldAddr Ty.f115_5 rfl (.succ (.succ (.succ (.succ (.succ (.succ (.succ (.succ (.succ (.zero _)))))))))) (List.cons_ne_nil _ _)) rfl ?_ | refine TD.run1 (pure_fieldAddr_own Ty.f115_5 rfl) rfl ?_
  refine TD.mute ?_
  first | refine TD.run1 (pure_fieldAddr Ty.f115_6 rfl (.succ (.succ (.succ (.succ (.succ (.succ (.succ (.succ (.succ (.succ (.zero _))))))))))) (List.cons_ne_nil _ _)) rfl ?_ | refine TD.run1 (pure_fieldAddr_own Ty.f115_6 rfl) rfl ?_
  refine TD.nil ?_
  refine ⟨⟨_, .right (.left .nil)⟩, fun s hs hb => ?_⟩
  simp only [List.mem_cons, List.not_mem_nil, or_false] at hs
  rcases hs with rfl | hs
  rotate_left
  · subst hs; exact absurd (hb 10 (by simp)) (by decide +kernel)
  refine ⟨_, rfl, rfl, fun E eF he hx0 => ?_⟩
  subst he
  refine TL.store ((hx0 (.tmp 12) (by simp [Op.operands, Call.operands])).trans rfl) ((hx0 (.tmp 5) (by simp [Op.operands, Call.operands])).trans rfl) (.agg _) Try.sizeOf33 rfl (by repeat (first | exact UpdR.here _ | apply UpdR.there)) (by repeat (first | exact PutR.nil _ | apply PutR.here | apply PutR.skip)) ?_
  refine TL.nil ⟨rfl, none, rfl, ?_⟩
  refine ⟨⟨_, SplitR.none _⟩, fun s hs hb => ?_⟩
  rw [show ([10, 12] : List Nat).erase 10 = [12] from rfl] at *
  simp only [List.mem_cons, List.not_mem_nil, or_false] at hs
  subst hs
  refine ⟨_, rfl, rfl, fun E eF he hx0 => ?_⟩
  subst he
  refine TL.store ((hx0 (.tmp 13) (by simp [Op.operands, Call.operands])).trans rfl) ((hx0 (.tmp 8) (by simp [Op.operands, Call.operands])).trans rfl) (.one rfl) Try.sizeOf72 rfl (by repeat (first | exact UpdR.here _ | apply UpdR.there)) (by repeat (first | exact PutR.nil _ | apply PutR.here | apply PutR.skip)) ?_
  refine TL.nil ⟨rfl, none, rfl, ?_⟩
  refine ⟨⟨_, SplitR.none _⟩, fun e he => ?_⟩
  subst he
  simp only [List.drop_succ_cons, List.drop_zero]
  refine TL.store rfl rfl (.one (by first | rfl | assumption)) Try.sizeOf22 rfl (by repeat (first | exact UpdR.here _ | apply UpdR.there)) (by repeat (first | exact PutR.nil _ | apply PutR.here | apply PutR.skip)) ?_
  refine TL.nil' ?_
  refine TC.seq ?_
  refine TC.region ?_
  first | refine TL.run1 (pure_load Ty.agg115 rfl (.succ (.succ (.succ (.succ (.succ (.succ (.succ (.succ (.succ (.succ (.succ (.zero _))))))))))))) rfl ?_ | refine TL.run1 (pure_load_own Ty.agg115 rfl (by repeat (first | exact List.Mem.head _ | apply List.Mem.tail)) (by repeat (first | exact DropR.zero _ | apply DropR.succ)) (.succ (.succ (.succ (.succ (.succ (.succ (.succ (.succ (.succ (.succ (.succ (.zero _))))))))))))) rfl ?_
  refine TL.store rfl rfl (.agg _) Try.sizeOf115 rfl (by repeat (first | exact UpdR.here _ | apply UpdR.there)) (by repeat (first | exact PutR.nil _ | apply PutR.here | apply PutR.skip)) ?_
  refine TL.nil' ?_
  refine TC.ret ?_
  exact retF_cell (.inl rfl) Ty.agg115 rfl (by repeat (first | exact List.Mem.head _ | apply List.Mem.tail)) rfl (.same _)

theorem CloneItem_spec : ∀ (n : Nat) (ds : List D), ItemB n ds → Fun Try.prog 86 [.agg ds] (.agg ds)
  | 0, _, h => h.elim
  | n + 1, _, ⟨a, b, c, s, hd, fl, rs, e, h1, h2, h3, h4, h5⟩ => by
    subst e
    exact CloneItem0_spec a b c s hd fl rs h1 h2 h3 (fun x hx => CloneItem_spec n x (h4 x hx)) (fun x hx => CloneRow_spec (ItemB n) (CloneItem_spec n) x (h5 x hx))
set_option maxRecDepth 100000 in
theorem CloneRowD_spec (I : List D → Prop) (hI : ∀ x, I x → Fun Try.prog 86 [.agg x] (.agg x)) (hd : List D) (cs : List (List D)) (h1 : HeadB hd) (h2 : SlB 7 120 cs) (h3 : ∀ x ∈ cs, CellB I x) : CallD Try.prog 56 [.agg (hd ++ [.sl 7 cs])] [] (fun r H' => ∃ v, r = .agg (hd ++ [.v v]) ∧ H' = [.row v 74 7 cs]) := by
  obtain ⟨a0, a1, a2, a3, a4, rfl⟩ := len5 h1.len
  refine CallD.enter (n := 10) (rs := [.cell 2 36]) Try.func56 rfl Try.ntmps56 Try.results56 rfl (fun w F => ?_)
  refine TC.seq ?_
  refine TC.region ?_
  refine TL.box rfl (.agg _) rfl (fun g1 => ?_)
  refine TL.alloc Ty.zero36 rfl (fun g2 => ?_)
  refine TL.nil' ?_
  refine TC.seq ?_
  refine TC.freezeBox 1 (List.cons_ne_nil _ _) (.there _ (.here _)) rfl ?_
  refine TC.drawSp 7 [5, 6] [] Ty.follows (by decide) (by kernel_rfl) (by kernel_rfl) (by kernel_rfl) ?_
  first | refine TD.run1 (pure_fieldAddr Ty.f36_0 rfl (.zero _) (List.cons_ne_nil _ _)) rfl ?_ | refine TD.run1 (pure_fieldAddr_own Ty.f36_0 rfl) rfl ?_
  first | refine TD.run1 (pure_load Ty.agg33 rfl (.succ (.succ (.succ (.succ (.succ (.zero _))))))) rfl ?_ | refine TD.run1 (pure_load_own Ty.agg33 rfl (by repeat (first | exact List.Mem.head _ | apply List.Mem.tail)) (by repeat (first | exact DropR.zero _ | apply DropR.succ)) (.succ (.succ (.succ (.succ (.succ (.zero _))))))) rfl ?_
  refine TD.run1 (pure_call (CloneHead_spec _ h1) (.cons rfl .nil) Try.call63) rfl ?_
  first | refine TD.run1 (pure_fieldAddr Ty.f36_1 rfl (.succ (.succ (.succ (.succ (.succ (.zero _)))))) (List.cons_ne_nil _ _)) rfl ?_ | refine TD.run1 (pure_fieldAddr_own Ty.f36_1 rfl) rfl ?_
  first | refine TD.run1 (pure_load1 Ty.one34 rfl) rfl ?_ | refine TD.run1 (pure_load1_own Ty.one34 rfl (by repeat (first | exact List.Mem.head _ | apply List.Mem.tail)) (by repeat (first | exact DropR.zero _ | apply DropR.succ))) rfl ?_
  refine TD.mute ?_
  refine TD.mute ?_
  refine TD.nil ?_
  refine ⟨⟨_, SplitR.none _⟩, fun s hs hb => ?_⟩
  simp only [List.mem_cons, List.not_mem_nil, or_false] at hs
  rcases hs with rfl | hs
  rotate_left
  · subst hs; exact absurd (hb 5 (by simp)) (by decide +kernel)
  refine ⟨_, rfl, rfl, fun E eF he hx0 => ?_⟩
  subst he
  refine TL.callD (SplitR.none _) (eachCellD_spec cs h2 (fun x hx => CloneCell_spec I hI x (h3 x hx))) (.cons ((hx0 (.tmp 7) (by simp [Op.operands, Call.operands])).trans rfl) (.cons rfl .nil)) Try.call64 (fun t ht => by cases ht; exact of_decide_eq_true rfl) ?_
  rintro r2 H2 ⟨v8, rfl, rfl⟩
  simp only [List.cons_append, List.nil_append]
  refine TL.nil ⟨rfl, _, rfl, ?_⟩
  refine ⟨⟨_, SplitR.none _⟩, fun s hs hb => ?_⟩
  rw [show ([5, 6] : List Nat).erase 5 = [6] from rfl] at *
  simp only [List.mem_cons, List.not_mem_nil, or_false] at hs
  subst hs
  refine ⟨_, rfl, rfl, fun E eF he hx0 => ?_⟩
  subst he
  refine TL.rowOne (by repeat (first | exact List.Mem.head _ | apply List.Mem.tail)) (fun hv8 => ?_); refine TL.run1 (pure_build Ty.pl36 Ty.zero36 (.cons rfl ((hx0 (.tmp 5) (by simp [Op.operands, Call.operands])).trans rfl) (.agg _) rfl (.here (.here (.here (.here (.here (.nil _)))))) (.cons rfl ((hx0 (.tmp 8) (by simp [Op.operands, Call.operands])).trans rfl) (.one hv8) rfl (.skip (.skip (.skip (.skip (.skip (.here (.nil _))))))) (.nil _)))) rfl ?_
  refine TL.nil ⟨rfl, _, rfl, ?_⟩
  refine ⟨⟨_, SplitR.none _⟩, fun e he => ?_⟩
  subst he
  simp only [List.drop_succ_cons, List.drop_zero]
  refine TL.store rfl rfl (.agg _) Try.sizeOf36 rfl (by repeat (first | exact UpdR.here _ | apply UpdR.there)) (by repeat (first | exact PutR.nil _ | apply PutR.here | apply PutR.skip)) ?_
  refine TL.nil' ?_
  refine TC.ret ?_
  exact ⟨.inl rfl, [.agg [a0, a1, a2, a3, a4, .v v8]], .cell Ty.agg36 rfl (by repeat (first | exact List.Mem.head _ | apply List.Mem.tail)) rfl .nil, [Blk.row v8 74 7 cs], by repeat (first | exact List.nil_sublist _ | exact List.Sublist.refl _ | apply List.Sublist.cons_cons | apply List.Sublist.cons), v8, rfl, rfl⟩
end Go.Ob
