import Derived.Test.YtlhjcleejolbiaaZd
set_option linter.unusedVariables false
set_option linter.unusedSimpArgs false
set_option linter.unnecessarySimpa false
set_option linter.unusedVariables false
set_option linter.unusedSimpArgs false
namespace Go.Ob
open Go.Proofs
structure R6 where
  row : Int
  cell : Int
  top : Int
  left : Int
  bottom : Int
  right : Int
  deriving DecidableEq
def encQ (q : R6) : List D := [.v (.int .i64 q.row), .v (.int .i64 q.cell), .v (.int .i64 q.top), .v (.int .i64 q.left), .v (.int .i64 q.bottom), .v (.int .i64 q.right)]
def encQs (l : List R6) : List (List D) := l.map encQ
def q0 : R6 := ⟨0, 0, 0, 0, 0, 0⟩
def qAt (l : List R6) (i : Int) : R6 := l.getD i.toNat q0
theorem encQs_len (l : List R6) : (encQs l).length = l.length := by simp [encQs]
theorem encQs_get (l : List R6) (i : Int) (h0 : 0 ≤ i) (h1 : i < l.length) : (encQs l)[i.toNat]? = some (encQ (qAt l i)) := by
  have : i.toNat < l.length := by omega
  simp [encQs, qAt, this]
theorem encQs_each (l : List R6) : ∀ x ∈ encQs l, x.length = 6 := by
  intro x hx; simp only [encQs, List.mem_map] at hx; obtain ⟨s, _, rfl⟩ := hx; rfl
theorem encQs_snoc (l : List R6) (q : R6) : encQs (l ++ [q]) = encQs l ++ [encQ q] := by simp [encQs]
def setBot (l : List R6) (n b : Int) : List R6 := l.set n.toNat { qAt l n with bottom := b }
theorem encQs_set (l : List R6) (n b : Int) : encQs (setBot l n b) = (encQs l).set n.toNat (encQ { qAt l n with bottom := b }) := by simp [encQs, setBot, List.map_set]
theorem setBot_len (l : List R6) (n b : Int) : (setBot l n b).length = l.length := by simp [setBot]
def encSS (rs : List RowD) : List (List D) := rs.map fun r => [.sl 2 (encS (spansR r))]
theorem encSS_each (l : List RowD) : ∀ x ∈ encSS l, x.length = 1 := by
  intro x hx; simp only [encSS, List.mem_map] at hx; obtain ⟨s, _, rfl⟩ := hx; rfl
theorem encSS_take (rs : List RowD) (i : Int) (h0 : 0 ≤ i) (h1 : i < rs.length) : encSS (rs.take (i + 1).toNat) = encSS (rs.take i.toNat) ++ [[.sl 2 (encS (spansR (rAt rs i)))]] := by
  have hl : i.toNat < rs.length := by omega
  unfold encSS
  rw [show (i + 1).toNat = i.toNat + 1 by omega, List.take_succ_eq_append_getElem hl, List.map_append]
  congr 1
  simp [rAt, hl]
def layCell (i : Int) (opn : PM) (st : List R6 × PM × PM) (k : Int) (s : Int × Int) (c : CellD) : List R6 × PM × PM :=
  if s.1 = s.2 then st
  else if (look opn s).isSome = true ∧ mergedN c = 2 then
    (setBot st.1 ((look opn s).getD 0) (i + 1), insM st.2.1 (i, k) ((look opn s).getD 0), if mergedN c ≠ 0 then insM st.2.2 s ((look opn s).getD 0) else st.2.2)
  else (st.1 ++ [⟨i, k, i, s.1, i + 1, s.2⟩], insM st.2.1 (i, k) st.1.length, if mergedN c ≠ 0 then insM st.2.2 s st.1.length else st.2.2)
def layUpto (i : Int) (opn : PM) (r : RowD) (st : List R6 × PM × PM) : Nat → List R6 × PM × PM
  | 0 => st
  | k + 1 => layCell i opn (layUpto i opn r st k) k (sAt (spansR r) k) (cAt r.cells k)
def layRows (rs : List RowD) : Nat → List R6 × PM × PM
  | 0 => ([], [], [])
  | i + 1 => layUpto i (layRows rs i).2.2 (rAt rs i) ((layRows rs i).1, (layRows rs i).2.1, []) (rAt rs i).cells.length
structure StOk (st : List R6 × PM × PM) (b : Nat) : Prop where
  len : st.1.length ≤ b
  n1 : NodupM st.2.1
  n2 : NodupM st.2.2
  r1 : ∀ p ∈ st.2.1, 0 ≤ p.2 ∧ p.2 < st.1.length
  r2 : ∀ p ∈ st.2.2, 0 ≤ p.2 ∧ p.2 < st.1.length
theorem StOk.mono {st : List R6 × PM × PM} {b b' : Nat} (h : StOk st b) (hb : b ≤ b') : StOk st b' := ⟨by have := h.len; omega, h.n1, h.n2, h.r1, h.r2⟩
theorem StOk.cell {st : List R6 × PM × PM} {b : Nat} (h : StOk st b) {i : Int} {opn : PM} (ho : ∀ p ∈ opn, 0 ≤ p.2 ∧ p.2 < st.1.length) (k : Int) (s : Int × Int) (c : CellD) :
    StOk (layCell i opn st k s c) (b + 1) ∧ st.1.length ≤ (layCell i opn st k s c).1.length := by
  unfold layCell
  split
  · exact ⟨h.mono (by omega), Nat.le_refl _⟩
  · split
    · rename_i hc
      obtain ⟨n, hn⟩ := Option.isSome_iff_exists.1 hc.1
      have hr := ho _ (look_mem hn)
      simp only [hn, Option.getD_some]
      refine ⟨⟨by rw [setBot_len]; have := h.len; omega, h.n1.ins _ _, ?_, ?_, ?_⟩, by rw [setBot_len]; omega⟩
      · split
        · exact h.n2.ins _ _
        · exact h.n2
      · intro p hp
        simp only at hp ⊢
        rw [setBot_len]
        rcases mem_ins hp with rfl | hp
        · exact hr
        · exact h.r1 p hp
      · intro p hp
        simp only at hp ⊢
        rw [setBot_len]
        split at hp
        · rcases mem_ins hp with rfl | hp
          · exact hr
          · exact h.r2 p hp
        · exact h.r2 p hp
    · refine ⟨⟨by simp; exact h.len, h.n1.ins _ _, ?_, ?_, ?_⟩, by simp⟩
      · split
        · exact h.n2.ins _ _
        · exact h.n2
      · intro p hp
        simp only [List.length_append, List.length_cons, List.length_nil] at hp ⊢
        rcases mem_ins hp with rfl | hp
        · exact ⟨by simp only; omega, by simp only; omega⟩
        · have := h.r1 p hp; omega
      · intro p hp
        simp only [List.length_append, List.length_cons, List.length_nil] at hp ⊢
        split at hp
        · rcases mem_ins hp with rfl | hp
          · exact ⟨by simp only; omega, by simp only; omega⟩
          · have := h.r2 p hp; omega
        · have := h.r2 p hp; omega
theorem StOk.upto {st : List R6 × PM × PM} {b : Nat} (h : StOk st b) {i : Int} {opn : PM} (ho : ∀ p ∈ opn, 0 ≤ p.2 ∧ p.2 < st.1.length) (r : RowD) : ∀ k, StOk (layUpto i opn r st k) (b + k) ∧ st.1.length ≤ (layUpto i opn r st k).1.length
  | 0 => ⟨h, Nat.le_refl _⟩
  | k + 1 => by
    obtain ⟨h1, h2⟩ := StOk.upto h ho r k
    obtain ⟨h3, h4⟩ := h1.cell (i := i) (opn := opn) (fun p hp => ⟨(ho p hp).1, by have := (ho p hp).2; omega⟩) k (sAt (spansR r) k) (cAt r.cells k)
    exact ⟨h3, Nat.le_trans h2 h4⟩
theorem lay_ok {rs : List RowD} (hr : ∀ r ∈ rs, r.cells.length ≤ 2000) : ∀ i, i ≤ rs.length → StOk (layRows rs i) (2000 * i)
  | 0, _ => ⟨by simp [layRows], by simp [layRows, NodupM], by simp [layRows, NodupM], by simp [layRows], by simp [layRows]⟩
  | i + 1, hi => by
    have ih := lay_ok hr i (by omega)
    have h0 : StOk ((layRows rs i).1, (layRows rs i).2.1, ([] : PM)) (2000 * i) := ⟨ih.len, ih.n1, by simp [NodupM], ih.r1, by simp⟩
    have hm : rAt rs i ∈ rs := rAt_mem rs i (by omega) (by omega)
    exact ((h0.upto (i := i) (opn := (layRows rs i).2.2) ih.r2 (rAt rs i) _).1).mono (by have := hr _ hm; omega)
def layRects (rs : List RowD) : List R6 := (layRows rs rs.length).1
def layOf (rs : List RowD) : PM := (layRows rs rs.length).2.1
set_option maxRecDepth 100000 in
theorem lay_spec (rs : List RowD) (hr : ∀ r ∈ rs, RowOk r) (hl : rs.length ≤ 2000) : Fun Try.prog 37 [.sl 6 (encRs rs)] (.agg [.sl 1 (encSS rs), .sl 6 (encQs (layRects rs)), .mp (keysM (layOf rs)) (valsM (layOf rs))]) := by
  refine Fun.enterF (n := 104) (rs := [.cell 2 81]) Try.func37 rfl Try.ntmps37 Try.results37 rfl (fun w F => ?_)
  refine TC.seq ?_
  refine TC.region ?_
  refine TL.alloc Ty.zero81 rfl (fun g2 => ?_)
  refine TL.nil' ?_
  refine TC.seq ?_
  refine TC.region ?_
  refine TL.makeMap rfl (fun g14 => ?_)
  refine TL.run1 (pure_build Ty.pl81 Ty.zero81 (.cons rfl rfl (.one rfl) rfl (.skip (.skip (.here (.nil _)))) (.nil _))) rfl ?_
  refine TL.alloc Ty.zero81 rfl (fun g3 => ?_)
  refine TL.store rfl rfl (.agg _) Try.sizeOf81 rfl (by repeat (first | exact UpdR.here _ | apply UpdR.there)) (by repeat (first | exact PutR.nil _ | apply PutR.here | apply PutR.skip)) ?_
  refine TL.nil' ?_
  refine TC.seq ?_
  refine TC.nilrow 40 6 ?_
  refine TC.nilrow 44 1 ?_
  refine TC.region ?_
  refine TL.makeMap rfl (fun g16 => ?_)
  refine TL.run1 (pure_assign rfl) rfl ?_
  refine TL.nil' ?_
  refine TC.seq ?_
  refine TC.seq ?_
  refine TC.region ?_
  refine TL.run1 (pure_move rfl) rfl ?_
  first | refine TL.run1 (pure_len Ty.sl22 rfl) rfl ?_ | refine TL.run1 (pure_len_row Ty.sl22 rfl (by repeat (first | exact List.Mem.head _ | apply List.Mem.tail))) rfl ?_ | refine TL.run1 (pure_len_nil Ty.sl22 rfl) rfl ?_
  refine TL.run1 (pure_move rfl) rfl ?_
  refine TL.nil' ?_
  refine TC.block ?_
  refine TC.loopX (X := Int × Value × Value × Nat) (fun (i, vs, vr, go) => [(17, .sl 6 (encRs rs)), (18, .v (.int .i64 (encRs rs).length)), (19, .v (.int .i64 i)), (3, .v (.pointer (some ⟨g3, 0, none⟩))), (2, .v (.pointer (some ⟨g2, 0, none⟩))), (4, .v (.map (some go)))]) (fun (i, vs, vr, go) => [.mp go (keysM (layRows rs i.toNat).2.2) (valsM (layRows rs i.toNat).2.2), .row vs 44 1 (encSS (rs.take i.toNat)), .row vr 40 6 (encQs (layRows rs i.toNat).1), .box g3 81 [.v vs, .v vr, .v (.map (some g14))], .mp g14 (keysM (layRows rs i.toNat).2.1) (valsM (layRows rs i.toNat).2.1), .box g2 81 [.v (.slice none 0 0), .v (.slice none 0 0), .v (.map none)]]) (fun (i, vs, vr, go) => (0 ≤ i) ∧ (i ≤ rs.length) ∧ (vs.oneCell' = true) ∧ (vr.oneCell' = true)) (fun (i, vs, vr, go) => (rs.length - i).toNat) (0, .slice none 0 0, .slice none 0 0, g16) ⟨by skip; repeat (first | exact Agree.nil | refine Agree.cons rfl ?_), by skip; repeat (first | exact List.nil_sublist _ | exact List.Sublist.refl _ | apply List.Sublist.cons_cons | apply List.Sublist.cons)⟩ ?_ ?_
  · skip
    exact ⟨by omega, by omega, rfl, rfl⟩
  rintro ⟨i, vs, vr, go⟩
  rintro ⟨i0, i1, ho1, ho2⟩
  show TC _ _ _ (Env.of [(17, .sl 6 (encRs rs)), (18, .v (.int .i64 (encRs rs).length)), (19, .v (.int .i64 i)), (3, .v (.pointer (some ⟨g3, 0, none⟩))), (2, .v (.pointer (some ⟨g2, 0, none⟩))), (4, .v (.map (some go)))]) [.mp go (keysM (layRows rs i.toNat).2.2) (valsM (layRows rs i.toNat).2.2), .row vs 44 1 (encSS (rs.take i.toNat)), .row vr 40 6 (encQs (layRows rs i.toNat).1), .box g3 81 [.v vs, .v vr, .v (.map (some g14))], .mp g14 (keysM (layRows rs i.toNat).2.1) (valsM (layRows rs i.toNat).2.1), .box g2 81 [.v (.slice none 0 0), .v (.slice none 0 0), .v (.map none)]]
  have hrl := encRs_len rs
  have hst := lay_ok (fun r hm => (hr r hm).2.2) i.toNat (by omega)
  have hst0 : StOk ((layRows rs i.toNat).1, (layRows rs i.toNat).2.1, ([] : PM)) (2000 * i.toNat) := ⟨hst.len, hst.n1, by simp [NodupM], hst.r1, by simp⟩
  have htl : (encSS (rs.take i.toNat)).length = i.toNat := by simp [encSS]; omega
  refine TC.seq ?_
  refine TC.region ?_
  refine TL.run1 (pure_lss rfl rfl) rfl ?_
  refine TL.nil' ?_
  refine TC.seq ?_
  first | refine TC.condD rfl (fun hc20 => ?_) (fun hc20 => ?_) | refine TC.condN rfl (fun hc20 => ?_) (fun hc20 => ?_) | refine TC.cond rfl (fun hc20 => ?_) (fun hc20 => ?_)
  · try dsimp only at hc20
    refine TC.skip' ?_
    refine TC.seq ?_
    refine TC.block ?_
    refine TC.seq ?_
    have hrow := encRs_get rs i i0 (by omega)
    have hrok := (hr _ (rAt_mem rs i i0 (by omega)))
    have hr1 := hrok.2.2
    refine TC.region ?_
    refine TL.run1 (pure_move rfl) rfl ?_
    refine TL.run1 (pure_indexAddr Ty.sl22 rfl rfl (by omega) (by assumption) (List.cons_ne_nil _ _)) rfl ?_
    first | refine TL.run1 (pure_load Ty.agg36 rfl (.succ (.succ (.succ (.succ (.succ (.succ (.zero _)))))))) rfl ?_ | refine TL.run1 (pure_load_own Ty.agg36 rfl (by repeat (first | exact List.Mem.head _ | apply List.Mem.tail)) (by repeat (first | exact DropR.zero _ | apply DropR.succ)) (.succ (.succ (.succ (.succ (.succ (.succ (.zero _)))))))) rfl ?_
    refine TL.alloc Ty.zero36 rfl (fun g6 => ?_)
    refine TL.run1 (pure_assign rfl) rfl ?_
    refine TL.store rfl rfl (.agg _) Try.sizeOf36 rfl (by repeat (first | exact UpdR.here _ | apply UpdR.there)) (by repeat (first | exact PutR.nil _ | apply PutR.here | apply PutR.skip)) ?_
    refine TL.nil' ?_
    refine TC.seq ?_
    refine TC.region ?_
    first | refine TL.run1 (pure_load Ty.agg36 rfl (.succ (.succ (.succ (.succ (.succ (.succ (.zero _)))))))) rfl ?_ | refine TL.run1 (pure_load_own Ty.agg36 rfl (by repeat (first | exact List.Mem.head _ | apply List.Mem.tail)) (by repeat (first | exact DropR.zero _ | apply DropR.succ)) (.succ (.succ (.succ (.succ (.succ (.succ (.zero _)))))))) rfl ?_
    refine TL.run1 (pure_call (spans_spec _ hrok) (.cons rfl .nil) Try.call39) rfl ?_
    refine TL.run1 (pure_assign rfl) rfl ?_
    refine TL.nil' ?_
    refine TC.seq ?_
    refine TC.region ?_
    first | refine TL.run1 (pure_fieldAddr Ty.f81_0 rfl (.zero _) (List.cons_ne_nil _ _)) rfl ?_ | refine TL.run1 (pure_fieldAddr_own Ty.f81_0 rfl) rfl ?_
    first | refine TL.run1 (pure_load1 Ty.one78 rfl) rfl ?_ | refine TL.run1 (pure_load1_own Ty.one78 rfl (by repeat (first | exact List.Mem.head _ | apply List.Mem.tail)) (by repeat (first | exact DropR.zero _ | apply DropR.succ))) rfl ?_
    refine TL.run1 (pure_move rfl) rfl ?_
    refine TL.run1 (pure_buildSlice (xs := [.tmp 28]) Ty.app78 (by decide) rfl rfl (.cons rfl (.one rfl) rfl .nil)) rfl ?_
    refine TL.append Ty.app78 rfl rfl (by intro _; repeat (first | exact UpdR.here _ | apply UpdR.there)) (by simp only [List.length_append, List.length_cons, List.length_nil]; omega) (by simp only [List.length_append, List.length_cons, List.length_nil]; omega) rfl (fun v30 hv30 => ?_)
    first | refine TL.run1 (pure_fieldAddr Ty.f81_0 rfl (.zero _) (List.cons_ne_nil _ _)) rfl ?_ | refine TL.run1 (pure_fieldAddr_own Ty.f81_0 rfl) rfl ?_
    refine TL.store rfl rfl (.one (by first | rfl | assumption)) Try.sizeOf78 rfl (by repeat (first | exact UpdR.here _ | apply UpdR.there)) (by repeat (first | exact PutR.nil _ | apply PutR.here | apply PutR.skip)) ?_
    refine TL.nil' ?_
    refine TC.seq ?_
    refine TC.region ?_
    refine TL.makeMap rfl (fun g32 => ?_)
    refine TL.run1 (pure_assign rfl) rfl ?_
    refine TL.nil' ?_
    refine TC.seq ?_
    refine TC.seq ?_
    refine TC.region ?_
    refine TL.run1 (pure_move rfl) rfl ?_
    first | refine TL.run1 (pure_len Ty.sl44 rfl) rfl ?_ | refine TL.run1 (pure_len_row Ty.sl44 rfl (by repeat (first | exact List.Mem.head _ | apply List.Mem.tail))) rfl ?_ | refine TL.run1 (pure_len_nil Ty.sl44 rfl) rfl ?_
    refine TL.run1 (pure_move rfl) rfl ?_
    refine TL.nil' ?_
    refine TC.block ?_
    refine TC.loopX (X := Int × Value) (fun (k, vr) => [(33, .sl 2 (encS (spansR (rAt rs i)))), (34, .v (.int .i64 (encS (spansR (rAt rs i))).length)), (35, .v (.int .i64 k)), (5, .v (.int .i64 i)), (6, .v (.pointer (some ⟨g6, 0, none⟩))), (7, .sl 2 (encS (spansR (rAt rs i)))), (8, .v (.map (some g32))), (4, .v (.map (some go))), (3, .v (.pointer (some ⟨g3, 0, none⟩))), (2, .v (.pointer (some ⟨g2, 0, none⟩))), (17, .sl 6 (encRs rs)), (18, .v (.int .i64 (encRs rs).length)), (19, .v (.int .i64 i))]) (fun (k, vr) => [.mp g32 (keysM (layUpto i (layRows rs i.toNat).2.2 (rAt rs i) ((layRows rs i.toNat).1, (layRows rs i.toNat).2.1, []) k.toNat).2.2) (valsM (layUpto i (layRows rs i.toNat).2.2 (rAt rs i) ((layRows rs i.toNat).1, (layRows rs i.toNat).2.1, []) k.toNat).2.2), .box g6 36 (encR (rAt rs i)), .mp go (keysM (layRows rs i.toNat).2.2) (valsM (layRows rs i.toNat).2.2), .row v30 44 1 (encSS (rs.take (i + 1).toNat)), .row vr 40 6 (encQs (layUpto i (layRows rs i.toNat).2.2 (rAt rs i) ((layRows rs i.toNat).1, (layRows rs i.toNat).2.1, []) k.toNat).1), .box g3 81 [.v v30, .v vr, .v (.map (some g14))], .mp g14 (keysM (layUpto i (layRows rs i.toNat).2.2 (rAt rs i) ((layRows rs i.toNat).1, (layRows rs i.toNat).2.1, []) k.toNat).2.1) (valsM (layUpto i (layRows rs i.toNat).2.2 (rAt rs i) ((layRows rs i.toNat).1, (layRows rs i.toNat).2.1, []) k.toNat).2.1), .box g2 81 [.v (.slice none 0 0), .v (.slice none 0 0), .v (.map none)]]) (fun (k, vr) => (0 ≤ k) ∧ (k ≤ (rAt rs i).cells.length) ∧ (vr.oneCell' = true)) (fun (k, vr) => ((rAt rs i).cells.length - k).toNat) (0, vr) ⟨by skip; repeat (first | exact Agree.nil | refine Agree.cons rfl ?_), by (rw [encSS_take rs i i0 (by omega)]); repeat (first | exact List.nil_sublist _ | exact List.Sublist.refl _ | apply List.Sublist.cons_cons | apply List.Sublist.cons)⟩ ?_ ?_
    · skip
      exact ⟨by omega, by omega, ho2⟩
    rintro ⟨k, vr⟩
    rintro ⟨k0, k1, k2⟩
    show TC _ _ _ (Env.of [(33, .sl 2 (encS (spansR (rAt rs i)))), (34, .v (.int .i64 (encS (spansR (rAt rs i))).length)), (35, .v (.int .i64 k)), (5, .v (.int .i64 i)), (6, .v (.pointer (some ⟨g6, 0, none⟩))), (7, .sl 2 (encS (spansR (rAt rs i)))), (8, .v (.map (some g32))), (4, .v (.map (some go))), (3, .v (.pointer (some ⟨g3, 0, none⟩))), (2, .v (.pointer (some ⟨g2, 0, none⟩))), (17, .sl 6 (encRs rs)), (18, .v (.int .i64 (encRs rs).length)), (19, .v (.int .i64 i))]) [.mp g32 (keysM (layUpto i (layRows rs i.toNat).2.2 (rAt rs i) ((layRows rs i.toNat).1, (layRows rs i.toNat).2.1, []) k.toNat).2.2) (valsM (layUpto i (layRows rs i.toNat).2.2 (rAt rs i) ((layRows rs i.toNat).1, (layRows rs i.toNat).2.1, []) k.toNat).2.2), .box g6 36 (encR (rAt rs i)), .mp go (keysM (layRows rs i.toNat).2.2) (valsM (layRows rs i.toNat).2.2), .row v30 44 1 (encSS (rs.take (i + 1).toNat)), .row vr 40 6 (encQs (layUpto i (layRows rs i.toNat).2.2 (rAt rs i) ((layRows rs i.toNat).1, (layRows rs i.toNat).2.1, []) k.toNat).1), .box g3 81 [.v v30, .v vr, .v (.map (some g14))], .mp g14 (keysM (layUpto i (layRows rs i.toNat).2.2 (rAt rs i) ((layRows rs i.toNat).1, (layRows rs i.toNat).2.1, []) k.toNat).2.1) (valsM (layUpto i (layRows rs i.toNat).2.2 (rAt rs i) ((layRows rs i.toNat).1, (layRows rs i.toNat).2.1, []) k.toNat).2.1), .box g2 81 [.v (.slice none 0 0), .v (.slice none 0 0), .v (.map none)]]
    have hsl := encS_len (spansR (rAt rs i))
    have hsl2 : (spansR (rAt rs i)).length = (rAt rs i).cells.length := spansFrom_len _ _
    obtain ⟨hstk, hstl⟩ := hst0.upto (i := i) (opn := (layRows rs i.toNat).2.2) hst.r2 (rAt rs i) k.toNat
    have hql := encQs_len (layUpto i (layRows rs i.toNat).2.2 (rAt rs i) ((layRows rs i.toNat).1, (layRows rs i.toNat).2.1, []) k.toNat).1
    have hlen2 := hstk.len
    refine TC.seq ?_
    refine TC.region ?_
    refine TL.run1 (pure_lss rfl rfl) rfl ?_
    refine TL.nil' ?_
    refine TC.seq ?_
    first | refine TC.condD rfl (fun hc36 => ?_) (fun hc36 => ?_) | refine TC.condN rfl (fun hc36 => ?_) (fun hc36 => ?_) | refine TC.cond rfl (fun hc36 => ?_) (fun hc36 => ?_)
    · try dsimp only at hc36
      refine TC.skip' ?_
      refine TC.seq ?_
      refine TC.block ?_
      refine TC.seq ?_
      have hrow2 := encS_get (spansR (rAt rs i)) k k0 (by omega)
      refine TC.region ?_
      refine TL.run1 (pure_move rfl) rfl ?_
      refine TL.run1 (pure_indexAddr Ty.sl44 rfl rfl (by omega) (by assumption) (List.cons_ne_nil _ _)) rfl ?_
      first | refine TL.run1 (pure_load Ty.agg51 rfl (.succ (.succ (.zero _)))) rfl ?_ | refine TL.run1 (pure_load_own Ty.agg51 rfl (by repeat (first | exact List.Mem.head _ | apply List.Mem.tail)) (by repeat (first | exact DropR.zero _ | apply DropR.succ)) (.succ (.succ (.zero _)))) rfl ?_
      refine TL.alloc Ty.zero51 rfl (fun g10 => ?_)
      refine TL.run1 (pure_assign rfl) rfl ?_
      refine TL.store rfl rfl (.agg _) Try.sizeOf51 rfl (by repeat (first | exact UpdR.here _ | apply UpdR.there)) (by repeat (first | exact PutR.nil _ | apply PutR.here | apply PutR.skip)) ?_
      refine TL.nil' ?_
      refine TC.seq ?_
      refine TC.seq ?_
      refine TC.region ?_
      first | refine TL.run1 (pure_fieldAddr Ty.f51_0 rfl (.zero _) (List.cons_ne_nil _ _)) rfl ?_ | refine TL.run1 (pure_fieldAddr_own Ty.f51_0 rfl) rfl ?_
      first | refine TL.run1 (pure_load1 Ty.one3 rfl) rfl ?_ | refine TL.run1 (pure_load1_own Ty.one3 rfl (by repeat (first | exact List.Mem.head _ | apply List.Mem.tail)) (by repeat (first | exact DropR.zero _ | apply DropR.succ))) rfl ?_
      first | refine TL.run1 (pure_fieldAddr Ty.f51_1 rfl (.succ (.zero _)) (List.cons_ne_nil _ _)) rfl ?_ | refine TL.run1 (pure_fieldAddr_own Ty.f51_1 rfl) rfl ?_
      first | refine TL.run1 (pure_load1 Ty.one3 rfl) rfl ?_ | refine TL.run1 (pure_load1_own Ty.one3 rfl (by repeat (first | exact List.Mem.head _ | apply List.Mem.tail)) (by repeat (first | exact DropR.zero _ | apply DropR.succ))) rfl ?_
      refine TL.run1 (pure_eql rfl rfl) rfl ?_
      refine TL.nil' ?_
      first | refine TC.condD rfl (fun hc44 => ?_) (fun hc44 => ?_) | refine TC.condN rfl (fun hc44 => ?_) (fun hc44 => ?_) | refine TC.cond rfl (fun hc44 => ?_) (fun hc44 => ?_)
      · try dsimp only at hc44
        refine TC.exit ?_
        refine then_exit ?_
        refine block_here ?_
        refine then_normal ?_
        refine TC.region ?_
        refine TL.run1 (pure_add rfl rfl (mkI64 (by omega) (by omega))) rfl ?_
        refine TL.run1 (pure_move rfl) rfl ?_
        refine TL.nil ?_
        have hU : layUpto i (layRows rs i.toNat).2.2 (rAt rs i) ((layRows rs i.toNat).1, (layRows rs i.toNat).2.1, []) (k + 1).toNat = (layUpto i (layRows rs i.toNat).2.2 (rAt rs i) ((layRows rs i.toNat).1, (layRows rs i.toNat).2.1, []) k.toNat) := by (rw [show (k + 1).toNat = k.toNat + 1 by omega]; show layCell i _ _ (k.toNat : Int) _ _ = _; rw [show ((k.toNat : Nat) : Int) = k by omega]; unfold layCell; rw [if_pos hc44])
        refine loop_next (k + 1, vr) ⟨by repeat (first | exact Agree.nil | refine Agree.cons rfl ?_), ?_⟩ ⟨by omega, by omega, k2⟩ (by dsimp only; omega)
        dsimp only
        rw [hU]
        try dsimp only
        repeat (first | exact List.nil_sublist _ | exact List.Sublist.refl _ | apply List.Sublist.cons_cons | apply List.Sublist.cons)
      · try dsimp only at hc44
        refine TC.skip' ?_
        refine TC.seq ?_
        have hrow3 := encCs_get (rAt rs i).cells k k0 (by omega)
        have hcok := hrok.1 _ (cAt_mem (rAt rs i).cells k k0 (by omega))
        refine TC.region ?_
        first | refine TL.run1 (pure_fieldAddr Ty.f36_1 rfl (.succ (.succ (.succ (.succ (.succ (.zero _)))))) (List.cons_ne_nil _ _)) rfl ?_ | refine TL.run1 (pure_fieldAddr_own Ty.f36_1 rfl) rfl ?_
        first | refine TL.run1 (pure_load1 Ty.one34 rfl) rfl ?_ | refine TL.run1 (pure_load1_own Ty.one34 rfl (by repeat (first | exact List.Mem.head _ | apply List.Mem.tail)) (by repeat (first | exact DropR.zero _ | apply DropR.succ))) rfl ?_
        refine TL.run1 (pure_move rfl) rfl ?_
        refine TL.run1 (pure_indexAddr Ty.sl34 rfl rfl (by omega) (by assumption) (List.cons_ne_nil _ _)) rfl ?_
        first | refine TL.run1 (pure_load Ty.agg74 rfl (.succ (.succ (.succ (.succ (.succ (.succ (.succ (.zero _))))))))) rfl ?_ | refine TL.run1 (pure_load_own Ty.agg74 rfl (by repeat (first | exact List.Mem.head _ | apply List.Mem.tail)) (by repeat (first | exact DropR.zero _ | apply DropR.succ)) (.succ (.succ (.succ (.succ (.succ (.succ (.succ (.zero _))))))))) rfl ?_
        refine TL.run1 (pure_call (merged_spec _ hcok) (.cons rfl .nil) Try.call52) rfl ?_
        refine TL.run1 (pure_assign rfl) rfl ?_
        refine TL.nil' ?_
        refine TC.seq ?_
        refine TC.region ?_
        refine TL.run1 (pure_move rfl) rfl ?_
        first | refine TL.run1 (pure_load Ty.agg51 rfl (.succ (.succ (.zero _)))) rfl ?_ | refine TL.run1 (pure_load_own Ty.agg51 rfl (by repeat (first | exact List.Mem.head _ | apply List.Mem.tail)) (by repeat (first | exact DropR.zero _ | apply DropR.succ)) (.succ (.succ (.zero _)))) rfl ?_
        refine TL.run1 (pure_look Ty.map103 rfl rfl hst.n2 (by repeat (first | exact List.Mem.head _ | apply List.Mem.tail))) rfl ?_
        refine TL.run1 (pure_move rfl) rfl ?_
        refine TL.run1 (pure_extract rfl rfl) rfl ?_
        refine TL.run1 (pure_extract rfl rfl) rfl ?_
        refine TL.run1 (pure_assign rfl) rfl ?_
        refine TL.run1 (pure_assign rfl) rfl ?_
        refine TL.nil' ?_
        refine TC.seq ?_
        refine TC.regionCut [57, 58, 59, 60, 61] 61 ((look (layRows rs i.toNat).2.2 ((sAt (spansR (rAt rs i)) k).1, (sAt (spansR (rAt rs i)) k).2)).isSome = true ∧ mergedN (cAt (rAt rs i).cells k) = 2) ?_ ?_
        · skip
          refine TL.run1 (pure_move rfl) rfl ?_
          refine TL.run1 (pure_move rfl) rfl ?_
          first | refine TL.splitP 58 rfl (fun hg58 => ?_) (fun hg58 => ?_) | refine TL.split 58 rfl (fun hg58 => ?_) (fun hg58 => ?_)
          · try dsimp only at hg58
            refine TL.runG rfl rfl (pure_move rfl) rfl ?_
            refine TL.runG rfl rfl (pure_eql rfl rfl) rfl ?_
            refine TL.run1 (pure_pick_true rfl rfl) rfl ?_
            refine TL.cutEnd (by repeat (first | exact Same.refl _ _ | refine Same.put rfl ?_)) rfl ?_
            first | (simp only [decide_eq_true_eq, Bool.false_eq_true, false_iff, true_iff, iff_true, iff_false, Bool.not_eq_true]; omega) | (simp_all; done) | (simp_all; omega) | grind
          · try dsimp only at hg58
            refine TL.passG rfl rfl rfl rfl ?_
            refine TL.passG rfl rfl rfl rfl ?_
            refine TL.run1 (pure_pick_false rfl rfl) rfl ?_
            refine TL.cutEnd (by repeat (first | exact Same.refl _ _ | refine Same.put rfl ?_)) rfl ?_
            first | (simp only [decide_eq_true_eq, Bool.false_eq_true, false_iff, true_iff, iff_true, iff_false, Bool.not_eq_true]; omega) | (simp_all; done) | (simp_all; omega) | grind
        first | refine TC.condD rfl (fun hc61 => ?_) (fun hc61 => ?_) | refine TC.condN rfl (fun hc61 => ?_) (fun hc61 => ?_) | refine TC.cond rfl (fun hc61 => ?_) (fun hc61 => ?_)
        · try dsimp only at hc61
          have hn : 0 ≤ (look (layRows rs i.toNat).2.2 ((sAt (spansR (rAt rs i)) k).1, (sAt (spansR (rAt rs i)) k).2)).getD 0 ∧ (look (layRows rs i.toNat).2.2 ((sAt (spansR (rAt rs i)) k).1, (sAt (spansR (rAt rs i)) k).2)).getD 0 < (layRows rs i.toNat).1.length := by
            obtain ⟨n, hn⟩ := Option.isSome_iff_exists.1 hc61.1
            rw [hn]; exact hst.r2 _ (look_mem hn)
          have hn0 := hn.1
          have hn1 : (look (layRows rs i.toNat).2.2 ((sAt (spansR (rAt rs i)) k).1, (sAt (spansR (rAt rs i)) k).2)).getD 0 < (encQs (layUpto i (layRows rs i.toNat).2.2 (rAt rs i) ((layRows rs i.toNat).1, (layRows rs i.toNat).2.1, []) k.toNat).1).length := by have := hn.2; simp only at hstl; omega
          refine TC.region ?_
          first | refine TL.run1 (pure_fieldAddr Ty.f81_1 rfl (.succ (.zero _)) (List.cons_ne_nil _ _)) rfl ?_ | refine TL.run1 (pure_fieldAddr_own Ty.f81_1 rfl) rfl ?_
          first | refine TL.run1 (pure_load1 Ty.one25 rfl) rfl ?_ | refine TL.run1 (pure_load1_own Ty.one25 rfl (by repeat (first | exact List.Mem.head _ | apply List.Mem.tail)) (by repeat (first | exact DropR.zero _ | apply DropR.succ))) rfl ?_
          refine TL.run1 (pure_move rfl) rfl ?_
          refine TL.run1 (pure_move rfl) rfl ?_
          refine TL.run1 (pure_add rfl rfl (mkI64 (by omega) (by omega))) rfl ?_
          refine TL.indexRow Ty.sl25 rfl rfl (by repeat (first | exact List.Mem.head _ | apply List.Mem.tail)) hn0 hn1 rfl (fun g67 hg67 => ?_)
          first | refine TL.run1 (pure_fieldAddr Ty.f40_2 rfl (.succ (.succ (.zero _))) (List.cons_ne_nil _ _)) rfl ?_ | refine TL.run1 (pure_fieldAddr_own Ty.f40_2 rfl) rfl ?_
          first | refine TL.run1 (pure_fieldAddr Ty.f38_2 rfl (.succ (.succ (.zero _))) (List.cons_ne_nil _ _)) rfl ?_ | refine TL.run1 (pure_fieldAddr_own Ty.f38_2 rfl) rfl ?_
          refine TL.storeRow (es := 6) (i := ((look (layRows rs i.toNat).2.2 ((sAt (spansR (rAt rs i)) k).1, (sAt (spansR (rAt rs i)) k).2)).getD 0).toNat) (o := 4) rfl hg67 (by omega) rfl (.one rfl) Try.sizeOf3 rfl (by repeat (first | exact UpdR.here _ | apply UpdR.there)) (encQs_get _ _ hn0 (by omega)) (by repeat (first | exact PutR.nil _ | apply PutR.here | apply PutR.skip)) ?_
          refine TL.nil' ?_
          refine TC.seq ?_
          refine TC.region ?_
          first | refine TL.run1 (pure_fieldAddr Ty.f81_2 rfl (.succ (.succ (.zero _))) (List.cons_ne_nil _ _)) rfl ?_ | refine TL.run1 (pure_fieldAddr_own Ty.f81_2 rfl) rfl ?_
          first | refine TL.run1 (pure_load1 Ty.one79 rfl) rfl ?_ | refine TL.run1 (pure_load1_own Ty.one79 rfl (by repeat (first | exact List.Mem.head _ | apply List.Mem.tail)) (by repeat (first | exact DropR.zero _ | apply DropR.succ))) rfl ?_
          refine TL.run1 (pure_move rfl) rfl ?_
          refine TL.run1 (pure_move rfl) rfl ?_
          refine TL.run1 (pure_build_arr Ty.pa90 Ty.zero90 (.cons rfl rfl (.one rfl) rfl (.here (.nil _)) (.cons rfl rfl (.one rfl) rfl (.skip (.here (.nil _))) (.nil _)))) rfl ?_
          refine TL.run1 (pure_move rfl) rfl ?_
          refine TL.insert Ty.map79 rfl rfl rfl hstk.n1 (by repeat (first | exact UpdR.here _ | apply UpdR.there)) ?_
          refine TL.nil' ?_
          refine TC.seq ?_
          refine TC.region ?_
          refine TL.run1 (pure_move rfl) rfl ?_
          refine TL.run1 (pure_neq rfl rfl) rfl ?_
          refine TL.nil' ?_
          first | refine TC.condD rfl (fun hc96 => ?_) (fun hc96 => ?_) | refine TC.condN rfl (fun hc96 => ?_) (fun hc96 => ?_) | refine TC.cond rfl (fun hc96 => ?_) (fun hc96 => ?_)
          · try dsimp only at hc96
            refine TC.region ?_
            refine TL.run1 (pure_move rfl) rfl ?_
            first | refine TL.run1 (pure_load Ty.agg51 rfl (.succ (.succ (.zero _)))) rfl ?_ | refine TL.run1 (pure_load_own Ty.agg51 rfl (by repeat (first | exact List.Mem.head _ | apply List.Mem.tail)) (by repeat (first | exact DropR.zero _ | apply DropR.succ)) (.succ (.succ (.zero _)))) rfl ?_
            refine TL.run1 (pure_move rfl) rfl ?_
            refine TL.insert Ty.map103 rfl rfl rfl hstk.n2 (by repeat (first | exact UpdR.here _ | apply UpdR.there)) ?_
            refine TL.nil ?_
            refine block_normal ?_
            refine then_normal ?_
            refine TC.region ?_
            refine TL.run1 (pure_add rfl rfl (mkI64 (by omega) (by omega))) rfl ?_
            refine TL.run1 (pure_move rfl) rfl ?_
            refine TL.nil ?_
            have hU : layUpto i (layRows rs i.toNat).2.2 (rAt rs i) ((layRows rs i.toNat).1, (layRows rs i.toNat).2.1, []) (k + 1).toNat = (setBot (layUpto i (layRows rs i.toNat).2.2 (rAt rs i) ((layRows rs i.toNat).1, (layRows rs i.toNat).2.1, []) k.toNat).1 ((look (layRows rs i.toNat).2.2 ((sAt (spansR (rAt rs i)) k).1, (sAt (spansR (rAt rs i)) k).2)).getD 0) (i + 1), insM (layUpto i (layRows rs i.toNat).2.2 (rAt rs i) ((layRows rs i.toNat).1, (layRows rs i.toNat).2.1, []) k.toNat).2.1 (i, k) ((look (layRows rs i.toNat).2.2 ((sAt (spansR (rAt rs i)) k).1, (sAt (spansR (rAt rs i)) k).2)).getD 0), insM (layUpto i (layRows rs i.toNat).2.2 (rAt rs i) ((layRows rs i.toNat).1, (layRows rs i.toNat).2.1, []) k.toNat).2.2 (sAt (spansR (rAt rs i)) k) ((look (layRows rs i.toNat).2.2 ((sAt (spansR (rAt rs i)) k).1, (sAt (spansR (rAt rs i)) k).2)).getD 0)) := by (rw [show (k + 1).toNat = k.toNat + 1 by omega]; show layCell i _ _ (k.toNat : Int) _ _ = _; rw [show ((k.toNat : Nat) : Int) = k by omega]; unfold layCell; rw [if_neg hc44, if_pos hc61, if_pos hc96])
            refine loop_next (k + 1, vr) ⟨by repeat (first | exact Agree.nil | refine Agree.cons rfl ?_), ?_⟩ ⟨by omega, by omega, k2⟩ (by dsimp only; omega)
            dsimp only
            rw [hU]
            try dsimp only
            rw [encQs_set]
            repeat (first | exact List.nil_sublist _ | exact List.Sublist.refl _ | apply List.Sublist.cons_cons | apply List.Sublist.cons)
          · try dsimp only at hc96
            refine TC.skip ?_
            refine block_normal ?_
            refine then_normal ?_
            refine TC.region ?_
            refine TL.run1 (pure_add rfl rfl (mkI64 (by omega) (by omega))) rfl ?_
            refine TL.run1 (pure_move rfl) rfl ?_
            refine TL.nil ?_
            exact absurd hc61.2 (by rw [Classical.not_not.1 hc96]; decide)
        · try dsimp only at hc61
          refine TC.seq ?_
          refine TC.region ?_
          first | refine TL.run1 (pure_fieldAddr Ty.f81_1 rfl (.succ (.zero _)) (List.cons_ne_nil _ _)) rfl ?_ | refine TL.run1 (pure_fieldAddr_own Ty.f81_1 rfl) rfl ?_
          first | refine TL.run1 (pure_load1 Ty.one25 rfl) rfl ?_ | refine TL.run1 (pure_load1_own Ty.one25 rfl (by repeat (first | exact List.Mem.head _ | apply List.Mem.tail)) (by repeat (first | exact DropR.zero _ | apply DropR.succ))) rfl ?_
          first | refine TL.run1 (pure_len Ty.sl25 rfl) rfl ?_ | refine TL.run1 (pure_len_row Ty.sl25 rfl (by repeat (first | exact List.Mem.head _ | apply List.Mem.tail))) rfl ?_ | refine TL.run1 (pure_len_nil Ty.sl25 rfl) rfl ?_
          refine TL.run1 (pure_assign rfl) rfl ?_
          refine TL.nil' ?_
          refine TC.region ?_
          first | refine TL.run1 (pure_fieldAddr Ty.f81_1 rfl (.succ (.zero _)) (List.cons_ne_nil _ _)) rfl ?_ | refine TL.run1 (pure_fieldAddr_own Ty.f81_1 rfl) rfl ?_
          first | refine TL.run1 (pure_load1 Ty.one25 rfl) rfl ?_ | refine TL.run1 (pure_load1_own Ty.one25 rfl (by repeat (first | exact List.Mem.head _ | apply List.Mem.tail)) (by repeat (first | exact DropR.zero _ | apply DropR.succ))) rfl ?_
          refine TL.run1 (pure_move rfl) rfl ?_
          refine TL.run1 (pure_move rfl) rfl ?_
          refine TL.run1 (pure_move rfl) rfl ?_
          first | refine TL.run1 (pure_fieldAddr Ty.f51_0 rfl (.zero _) (List.cons_ne_nil _ _)) rfl ?_ | refine TL.run1 (pure_fieldAddr_own Ty.f51_0 rfl) rfl ?_
          first | refine TL.run1 (pure_load1 Ty.one3 rfl) rfl ?_ | refine TL.run1 (pure_load1_own Ty.one3 rfl (by repeat (first | exact List.Mem.head _ | apply List.Mem.tail)) (by repeat (first | exact DropR.zero _ | apply DropR.succ))) rfl ?_
          refine TL.run1 (pure_move rfl) rfl ?_
          refine TL.run1 (pure_add rfl rfl (mkI64 (by omega) (by omega))) rfl ?_
          first | refine TL.run1 (pure_fieldAddr Ty.f51_1 rfl (.succ (.zero _)) (List.cons_ne_nil _ _)) rfl ?_ | refine TL.run1 (pure_fieldAddr_own Ty.f51_1 rfl) rfl ?_
          first | refine TL.run1 (pure_load1 Ty.one3 rfl) rfl ?_ | refine TL.run1 (pure_load1_own Ty.one3 rfl (by repeat (first | exact List.Mem.head _ | apply List.Mem.tail)) (by repeat (first | exact DropR.zero _ | apply DropR.succ))) rfl ?_
          refine TL.run1 (pure_build Ty.pl38 Ty.zero38 (.cons rfl rfl (.one rfl) rfl (.here (.nil _)) (.cons rfl rfl (.one rfl) rfl (.skip (.here (.nil _))) (.cons rfl rfl (.one rfl) rfl (.skip (.skip (.here (.nil _)))) (.cons rfl rfl (.one rfl) rfl (.skip (.skip (.skip (.here (.nil _))))) (.nil _)))))) rfl ?_
          refine TL.run1 (pure_build Ty.pl40 Ty.zero40 (.cons rfl rfl (.one rfl) rfl (.here (.nil _)) (.cons rfl rfl (.one rfl) rfl (.skip (.here (.nil _))) (.cons rfl rfl (.agg _) rfl (.skip (.skip (.here (.here (.here (.here (.nil _))))))) (.nil _))))) rfl ?_
          refine TL.run1 (pure_buildSlice (xs := [.tmp 85]) Ty.app25 (by decide) rfl rfl (.cons rfl (.agg _) rfl .nil)) rfl ?_
          refine TL.append Ty.app25 rfl rfl (by intro _; repeat (first | exact UpdR.here _ | apply UpdR.there)) (by simp only [List.length_append, List.length_cons, List.length_nil]; omega) (by simp only [List.length_append, List.length_cons, List.length_nil]; omega) rfl (fun v87 hv87 => ?_)
          first | refine TL.run1 (pure_fieldAddr Ty.f81_1 rfl (.succ (.zero _)) (List.cons_ne_nil _ _)) rfl ?_ | refine TL.run1 (pure_fieldAddr_own Ty.f81_1 rfl) rfl ?_
          refine TL.store rfl rfl (.one (by first | rfl | assumption)) Try.sizeOf25 rfl (by repeat (first | exact UpdR.here _ | apply UpdR.there)) (by repeat (first | exact PutR.nil _ | apply PutR.here | apply PutR.skip)) ?_
          refine TL.nil' ?_
          refine TC.seq ?_
          refine TC.region ?_
          first | refine TL.run1 (pure_fieldAddr Ty.f81_2 rfl (.succ (.succ (.zero _))) (List.cons_ne_nil _ _)) rfl ?_ | refine TL.run1 (pure_fieldAddr_own Ty.f81_2 rfl) rfl ?_
          first | refine TL.run1 (pure_load1 Ty.one79 rfl) rfl ?_ | refine TL.run1 (pure_load1_own Ty.one79 rfl (by repeat (first | exact List.Mem.head _ | apply List.Mem.tail)) (by repeat (first | exact DropR.zero _ | apply DropR.succ))) rfl ?_
          refine TL.run1 (pure_move rfl) rfl ?_
          refine TL.run1 (pure_move rfl) rfl ?_
          refine TL.run1 (pure_build_arr Ty.pa90 Ty.zero90 (.cons rfl rfl (.one rfl) rfl (.here (.nil _)) (.cons rfl rfl (.one rfl) rfl (.skip (.here (.nil _))) (.nil _)))) rfl ?_
          refine TL.run1 (pure_move rfl) rfl ?_
          refine TL.insert Ty.map79 rfl rfl rfl hstk.n1 (by repeat (first | exact UpdR.here _ | apply UpdR.there)) ?_
          refine TL.nil' ?_
          refine TC.seq ?_
          refine TC.region ?_
          refine TL.run1 (pure_move rfl) rfl ?_
          refine TL.run1 (pure_neq rfl rfl) rfl ?_
          refine TL.nil' ?_
          first | refine TC.condD rfl (fun hc96 => ?_) (fun hc96 => ?_) | refine TC.condN rfl (fun hc96 => ?_) (fun hc96 => ?_) | refine TC.cond rfl (fun hc96 => ?_) (fun hc96 => ?_)
          · try dsimp only at hc96
            refine TC.region ?_
            refine TL.run1 (pure_move rfl) rfl ?_
            first | refine TL.run1 (pure_load Ty.agg51 rfl (.succ (.succ (.zero _)))) rfl ?_ | refine TL.run1 (pure_load_own Ty.agg51 rfl (by repeat (first | exact List.Mem.head _ | apply List.Mem.tail)) (by repeat (first | exact DropR.zero _ | apply DropR.succ)) (.succ (.succ (.zero _)))) rfl ?_
            refine TL.run1 (pure_move rfl) rfl ?_
            refine TL.insert Ty.map103 rfl rfl rfl hstk.n2 (by repeat (first | exact UpdR.here _ | apply UpdR.there)) ?_
            refine TL.nil ?_
            refine block_normal ?_
            refine then_normal ?_
            refine TC.region ?_
            refine TL.run1 (pure_add rfl rfl (mkI64 (by omega) (by omega))) rfl ?_
            refine TL.run1 (pure_move rfl) rfl ?_
            refine TL.nil ?_
            have hU : layUpto i (layRows rs i.toNat).2.2 (rAt rs i) ((layRows rs i.toNat).1, (layRows rs i.toNat).2.1, []) (k + 1).toNat = ((layUpto i (layRows rs i.toNat).2.2 (rAt rs i) ((layRows rs i.toNat).1, (layRows rs i.toNat).2.1, []) k.toNat).1 ++ [⟨i, k, i, (sAt (spansR (rAt rs i)) k).1, i + 1, (sAt (spansR (rAt rs i)) k).2⟩], insM (layUpto i (layRows rs i.toNat).2.2 (rAt rs i) ((layRows rs i.toNat).1, (layRows rs i.toNat).2.1, []) k.toNat).2.1 (i, k) ((encQs (layUpto i (layRows rs i.toNat).2.2 (rAt rs i) ((layRows rs i.toNat).1, (layRows rs i.toNat).2.1, []) k.toNat).1).length : Int), insM (layUpto i (layRows rs i.toNat).2.2 (rAt rs i) ((layRows rs i.toNat).1, (layRows rs i.toNat).2.1, []) k.toNat).2.2 (sAt (spansR (rAt rs i)) k) ((encQs (layUpto i (layRows rs i.toNat).2.2 (rAt rs i) ((layRows rs i.toNat).1, (layRows rs i.toNat).2.1, []) k.toNat).1).length : Int)) := by (rw [show (k + 1).toNat = k.toNat + 1 by omega]; show layCell i _ _ (k.toNat : Int) _ _ = _; rw [show ((k.toNat : Nat) : Int) = k by omega]; unfold layCell; rw [if_neg hc44, if_neg hc61, if_pos hc96, hql])
            refine loop_next (k + 1, v87) ⟨by repeat (first | exact Agree.nil | refine Agree.cons rfl ?_), ?_⟩ ⟨by omega, by omega, hv87⟩ (by dsimp only; omega)
            dsimp only
            rw [hU]
            try dsimp only
            rw [encQs_snoc]
            repeat (first | exact List.nil_sublist _ | exact List.Sublist.refl _ | apply List.Sublist.cons_cons | apply List.Sublist.cons)
          · try dsimp only at hc96
            refine TC.skip ?_
            refine block_normal ?_
            refine then_normal ?_
            refine TC.region ?_
            refine TL.run1 (pure_add rfl rfl (mkI64 (by omega) (by omega))) rfl ?_
            refine TL.run1 (pure_move rfl) rfl ?_
            refine TL.nil ?_
            have hU : layUpto i (layRows rs i.toNat).2.2 (rAt rs i) ((layRows rs i.toNat).1, (layRows rs i.toNat).2.1, []) (k + 1).toNat = ((layUpto i (layRows rs i.toNat).2.2 (rAt rs i) ((layRows rs i.toNat).1, (layRows rs i.toNat).2.1, []) k.toNat).1 ++ [⟨i, k, i, (sAt (spansR (rAt rs i)) k).1, i + 1, (sAt (spansR (rAt rs i)) k).2⟩], insM (layUpto i (layRows rs i.toNat).2.2 (rAt rs i) ((layRows rs i.toNat).1, (layRows rs i.toNat).2.1, []) k.toNat).2.1 (i, k) ((encQs (layUpto i (layRows rs i.toNat).2.2 (rAt rs i) ((layRows rs i.toNat).1, (layRows rs i.toNat).2.1, []) k.toNat).1).length : Int), (layUpto i (layRows rs i.toNat).2.2 (rAt rs i) ((layRows rs i.toNat).1, (layRows rs i.toNat).2.1, []) k.toNat).2.2) := by (rw [show (k + 1).toNat = k.toNat + 1 by omega]; show layCell i _ _ (k.toNat : Int) _ _ = _; rw [show ((k.toNat : Nat) : Int) = k by omega]; unfold layCell; rw [if_neg hc44, if_neg hc61, if_neg hc96, hql])
            refine loop_next (k + 1, v87) ⟨by repeat (first | exact Agree.nil | refine Agree.cons rfl ?_), ?_⟩ ⟨by omega, by omega, hv87⟩ (by dsimp only; omega)
            dsimp only
            rw [hU]
            try dsimp only
            rw [encQs_snoc]
            repeat (first | exact List.nil_sublist _ | exact List.Sublist.refl _ | apply List.Sublist.cons_cons | apply List.Sublist.cons)
    · try dsimp only at hc36
      refine TC.exit ?_
      refine then_exit ?_
      refine loop_exit ?_
      refine block_here ?_
      refine then_normal ?_
      refine TC.region ?_
      refine TL.run1 (pure_move rfl) rfl ?_
      refine TL.run1 (pure_assign rfl) rfl ?_
      refine TL.nil ?_
      refine block_normal ?_
      refine then_normal ?_
      refine TC.region ?_
      refine TL.run1 (pure_add rfl rfl (mkI64 (by omega) (by omega))) rfl ?_
      refine TL.run1 (pure_move rfl) rfl ?_
      refine TL.nil ?_
      refine loop_next (i + 1, v30, vr, g32) ⟨by repeat (first | exact Agree.nil | refine Agree.cons rfl ?_), ?_⟩ ⟨by omega, by omega, hv30, k2⟩ (by dsimp only; omega)
      dsimp only
      have hkk : k.toNat = (rAt rs i).cells.length := by omega
      rw [hkk]
      have hL : layRows rs (i + 1).toNat = layUpto i (layRows rs i.toNat).2.2 (rAt rs i) ((layRows rs i.toNat).1, (layRows rs i.toNat).2.1, []) (rAt rs i).cells.length := by rw [show (i + 1).toNat = i.toNat + 1 by omega]; simp only [layRows]; rw [show ((i.toNat : Nat) : Int) = i by omega]
      rw [hL]
      repeat (first | exact List.nil_sublist _ | exact List.Sublist.refl _ | apply List.Sublist.cons_cons | apply List.Sublist.cons)
  · try dsimp only at hc20
    refine TC.exit ?_
    refine then_exit ?_
    refine loop_exit ?_
    refine block_here ?_
    refine then_normal ?_
    refine TC.seq ?_
    refine TC.region ?_
    first | refine TL.run1 (pure_load Ty.agg81 rfl (.succ (.succ (.succ (.zero _))))) rfl ?_ | refine TL.run1 (pure_load_own Ty.agg81 rfl (by repeat (first | exact List.Mem.head _ | apply List.Mem.tail)) (by repeat (first | exact DropR.zero _ | apply DropR.succ)) (.succ (.succ (.succ (.zero _))))) rfl ?_
    refine TL.store rfl rfl (.agg _) Try.sizeOf81 rfl (by repeat (first | exact UpdR.here _ | apply UpdR.there)) (by repeat (first | exact PutR.nil _ | apply PutR.here | apply PutR.skip)) ?_
    refine TL.nil' ?_
    refine TC.ret ?_
    have hi : i.toNat = rs.length := by omega
    have e1 : encSS rs = encSS (rs.take i.toNat) := by rw [hi, List.take_length]
    have e2 : layRects rs = (layRows rs i.toNat).1 := by unfold layRects; rw [hi]
    have e3 : layOf rs = (layRows rs i.toNat).2.1 := by unfold layOf; rw [hi]
    rw [e1, e2, e3]
    exact retF_cell (.inl rfl) Ty.agg81 rfl (by repeat (first | exact List.Mem.head _ | apply List.Mem.tail)) rfl (.aggL (.cons (.rowS (by repeat (first | exact List.Mem.head _ | apply List.Mem.tail)) (by decide) (encSS_each _)) (.cons (.rowS (by repeat (first | exact List.Mem.head _ | apply List.Mem.tail)) (by decide) (encQs_each _)) (.cons (.mpS (by repeat (first | exact List.Mem.head _ | apply List.Mem.tail))) .nil))))
end Go.Ob
