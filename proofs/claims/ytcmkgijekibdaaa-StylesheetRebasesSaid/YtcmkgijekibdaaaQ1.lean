import Derived.Test.YtcmkgijekibdaaaP4
import Derived.Test.YtcmkgijekibdaaaObX
set_option linter.unusedVariables false
set_option linter.unusedSimpArgs false
namespace Go.Ob
open Go.Proofs

/-! ### names -/
def HeadP (s : ByteArray) : Prop := 0 < s.size ∧ s.size ≤ 40 ∧ ((byt s 0 : Nat) : Int) ≠ 32 ∧ ((byt s (s.size - 1) : Nat) : Int) ≠ 32
instance (s : ByteArray) : Decidable (HeadP s) := by unfold HeadP; infer_instance
def NameP (s : ByteArray) : Prop := HeadP s ∧ ∀ i, i < s.size → 32 ≤ byt s i ∧ byt s i ≤ 126
instance (s : ByteArray) : Decidable (NameP s) := by unfold NameP; infer_instance
/-! ### styles -/
structure Sty where
  id : Int
  kind : Int
  name : ByteArray
  base : Int
  next : Int
  props : List (Int × Int)
def encSt (s : Sty) : List D := [.v (.int .i64 s.id), .v (.int .i64 s.kind), .v (.string s.name), .v (.int .i64 s.base), .v (.int .i64 s.next), .sl 2 (encP s.props)]
def encSs (l : List Sty) : List (List D) := l.map encSt
def sty0 : Sty := ⟨0, 0, ⟨#[]⟩, 0, 0, []⟩
def yAt (l : List Sty) (i : Nat) : Sty := l.getD i sty0
theorem encSs_len (l : List Sty) : (encSs l).length = l.length := by simp [encSs]
theorem encSs_get (l : List Sty) (i : Nat) (h : i < l.length) : (encSs l)[((i : Nat) : Int).toNat]? = some [.v (.int .i64 (yAt l i).id), .v (.int .i64 (yAt l i).kind), .v (.string (yAt l i).name), .v (.int .i64 (yAt l i).base), .v (.int .i64 (yAt l i).next), .sl 2 (encP (yAt l i).props)] := by
  rw [Int.toNat_natCast]; simp [encSs, yAt, h, encSt]
/-- the first index with a property, or -1 -/
def fiN (p : Sty → Bool) : List Sty → Nat → Int
  | [], _ => -1
  | s :: l, i => if p s = true then (i : Int) else fiN p l (i + 1)
theorem fiN_step (p : Sty → Bool) (l : List Sty) (i : Nat) (h : i < l.length) : fiN p (l.drop i) i = if p (yAt l i) = true then (i : Int) else fiN p (l.drop (i + 1)) (i + 1) := by
  have e : l.drop i = yAt l i :: l.drop (i + 1) := by
    rw [List.drop_eq_getElem_cons h]; unfold yAt; simp [h]
  rw [e, fiN]
theorem fiN_end (p : Sty → Bool) (l : List Sty) (i : Nat) (h : l.length ≤ i) : fiN p (l.drop i) i = -1 := by rw [List.drop_eq_nil_of_le h]; rfl
def findS (l : List Sty) (id : Int) : Int := fiN (fun s => decide (s.id = id)) l 0
def findN (l : List Sty) (kind : Int) (name : ByteArray) : Int := fiN (fun s => decide (s.kind = kind ∧ s.name = name)) l 0
set_option maxRecDepth 100000 in
theorem IsName_spec (s : ByteArray) (hs : s.size ≤ 1000000000) : Fun Try.prog 17 [.v (.string s)] (.v (.bool (decide (NameP s)))) := by
  refine Fun.enter (n := 41) (rs := [.tmp 2]) Try.func17 rfl Try.ntmps17 Try.results17 rfl (fun w F => ?_)
  have hb0 := byt_lt s 0
  have hb1 := byt_lt s (s.size - 1)
  refine TC.seq ?_; refine TC.region ?_; refine TL.run1 (pure_assign rfl) rfl ?_; refine TL.nil' ?_; refine TC.seq ?_; refine TC.regionCut [4, 5, 6, 7, 8, 9, 10, 11, 12, 13, 14, 15, 16, 17, 18, 19, 20, 21, 22, 23, 24] 24 (¬ HeadP s) ?_ ?_
  · skip
    refine TL.run1 (pure_move rfl) rfl ?_; refine TL.run1 (pure_len_str Try.underlying9 rfl) rfl ?_; refine TL.run1 (pure_eql rfl rfl) rfl ?_; refine TL.run1 (pure_move rfl) rfl ?_
    first | refine TL.splitP 7 rfl (fun hg7 => ?_) (fun hg7 => ?_) | refine TL.split 7 rfl (fun hg7 => ?_) (fun hg7 => ?_)
    · try dsimp only at hg7
      refine TL.passG rfl rfl rfl rfl ?_; refine TL.passG rfl rfl rfl rfl ?_; refine TL.passG rfl rfl rfl rfl ?_; refine TL.run1 (pure_pick_true rfl rfl) rfl ?_; refine TL.run1 (pure_move rfl) rfl ?_; refine TL.passG rfl rfl rfl rfl ?_; refine TL.passG rfl rfl rfl rfl ?_; refine TL.passG rfl rfl rfl rfl ?_; refine TL.run1 (pure_pick_true rfl rfl) rfl ?_; refine TL.run1 (pure_move rfl) rfl ?_; refine TL.passG rfl rfl rfl rfl ?_; refine TL.passG rfl rfl rfl rfl ?_; refine TL.passG rfl rfl rfl rfl ?_; refine TL.passG rfl rfl rfl rfl ?_; refine TL.passG rfl rfl rfl rfl ?_; refine TL.passG rfl rfl rfl rfl ?_; refine TL.run1 (pure_pick_true rfl rfl) rfl ?_; refine TL.cutEnd (by repeat (first | exact Same.refl _ _ | refine Same.put rfl ?_)) rfl ?_
      first | (unfold HeadP; simp_all; done) | (unfold HeadP; simp_all; omega) | (unfold HeadP; grind)
    · try dsimp only at hg7
      refine TL.runG rfl rfl (pure_move rfl) rfl ?_; refine TL.runG rfl rfl (pure_len_str Try.underlying9 rfl) rfl ?_; refine TL.runG rfl rfl (pure_gtr rfl rfl) rfl ?_; refine TL.run1 (pure_pick_false rfl rfl) rfl ?_; refine TL.run1 (pure_move rfl) rfl ?_
      first | refine TL.splitP 12 rfl (fun hg12 => ?_) (fun hg12 => ?_) | refine TL.split 12 rfl (fun hg12 => ?_) (fun hg12 => ?_)
      · try dsimp only at hg12
        refine TL.passG rfl rfl rfl rfl ?_; refine TL.passG rfl rfl rfl rfl ?_; refine TL.passG rfl rfl rfl rfl ?_; refine TL.run1 (pure_pick_true rfl rfl) rfl ?_; refine TL.run1 (pure_move rfl) rfl ?_; refine TL.passG rfl rfl rfl rfl ?_; refine TL.passG rfl rfl rfl rfl ?_; refine TL.passG rfl rfl rfl rfl ?_; refine TL.passG rfl rfl rfl rfl ?_; refine TL.passG rfl rfl rfl rfl ?_; refine TL.passG rfl rfl rfl rfl ?_; refine TL.run1 (pure_pick_true rfl rfl) rfl ?_; refine TL.cutEnd (by repeat (first | exact Same.refl _ _ | refine Same.put rfl ?_)) rfl ?_
        first | (unfold HeadP; simp_all; done) | (unfold HeadP; simp_all; omega) | (unfold HeadP; grind)
      · try dsimp only at hg12
        refine TL.runG rfl rfl (pure_move rfl) rfl ?_; refine TL.runG rfl rfl (pure_index_byt (j := 0) Try.underlying9 rfl rfl (by first | rfl | omega | (simp_all; omega)) (by first | omega | (simp_all; omega))) rfl ?_; refine TL.runG rfl rfl (pure_eql rfl rfl) rfl ?_; refine TL.run1 (pure_pick_false rfl rfl) rfl ?_; refine TL.run1 (pure_move rfl) rfl ?_
        first | refine TL.splitP 17 rfl (fun hg17 => ?_) (fun hg17 => ?_) | refine TL.split 17 rfl (fun hg17 => ?_) (fun hg17 => ?_)
        · try dsimp only at hg17
          refine TL.passG rfl rfl rfl rfl ?_; refine TL.passG rfl rfl rfl rfl ?_; refine TL.passG rfl rfl rfl rfl ?_; refine TL.passG rfl rfl rfl rfl ?_; refine TL.passG rfl rfl rfl rfl ?_; refine TL.passG rfl rfl rfl rfl ?_; refine TL.run1 (pure_pick_true rfl rfl) rfl ?_; refine TL.cutEnd (by repeat (first | exact Same.refl _ _ | refine Same.put rfl ?_)) rfl ?_
          first | (unfold HeadP; simp_all; done) | (unfold HeadP; simp_all; omega) | (unfold HeadP; grind)
        · try dsimp only at hg17
          refine TL.runG rfl rfl (pure_move rfl) rfl ?_; refine TL.runG rfl rfl (pure_move rfl) rfl ?_; refine TL.runG rfl rfl (pure_len_str Try.underlying9 rfl) rfl ?_; refine TL.runG rfl rfl (pure_sub rfl rfl (mkI64 (by omega) (by omega))) rfl ?_; refine TL.runG rfl rfl (pure_index_byt (j := s.size - 1) Try.underlying9 rfl rfl (by first | rfl | omega | (simp_all; omega)) (by first | omega | (simp_all; omega))) rfl ?_; refine TL.runG rfl rfl (pure_eql rfl rfl) rfl ?_; refine TL.run1 (pure_pick_false rfl rfl) rfl ?_; refine TL.cutEnd (by repeat (first | exact Same.refl _ _ | refine Same.put rfl ?_)) rfl ?_
          first | (unfold HeadP; simp_all; done) | (unfold HeadP; simp_all; omega) | (unfold HeadP; grind)
  first | refine TC.condD rfl (fun hc24 => ?_) (fun hc24 => ?_) | refine TC.condN rfl (fun hc24 => ?_) (fun hc24 => ?_) | refine TC.cond rfl (fun hc24 => ?_) (fun hc24 => ?_)
  · try dsimp only at hc24
    refine TC.seq ?_; refine TC.region ?_; refine TL.run1 (pure_assign rfl) rfl ?_; refine TL.nil' ?_; refine TC.ret ?_; refine then_ret ?_
    exact ret_bool rfl (decide_eq_false (fun h => hc24 h.1)).symm
  · try dsimp only at hc24
    have hh : HeadP s := Classical.not_not.1 hc24
    have hhs := hh.2.1
    refine TC.skip' ?_; refine TC.seq ?_; refine TC.seq ?_; refine TC.region ?_; refine TL.run1 (pure_move rfl) rfl ?_; refine TL.run1 (pure_len_str Try.underlying9 rfl) rfl ?_; refine TL.run1 (pure_move rfl) rfl ?_; refine TL.nil' ?_; refine TC.block ?_; refine TC.loopX (X := Nat) (fun i => [(0, .v (.string s)), (26, .v (.int .i64 (s.size : Nat))), (27, .v (.int .i64 i))]) (fun i => []) (fun i => (i ≤ s.size) ∧ (∀ j, j < i → 32 ≤ byt s j ∧ byt s j ≤ 126)) (fun i => s.size - i) (0) ⟨by skip; repeat (first | exact Agree.nil | refine Agree.cons rfl ?_), by skip; repeat (first | exact List.nil_sublist _ | exact List.Sublist.refl _ | apply List.Sublist.cons_cons | apply List.Sublist.cons)⟩ ?_ ?_
    · skip
      exact ⟨Nat.zero_le _, fun j h => by omega⟩
    intro i
    rintro ⟨h1, h2⟩
    show TC _ _ _ (Env.of [(0, .v (.string s)), (26, .v (.int .i64 (s.size : Nat))), (27, .v (.int .i64 i))]) []
    refine TC.seq ?_; refine TC.region ?_; refine TL.run1 (pure_lss rfl rfl) rfl ?_; refine TL.nil' ?_; refine TC.seq ?_
    first | refine TC.condD rfl (fun hc28 => ?_) (fun hc28 => ?_) | refine TC.condN rfl (fun hc28 => ?_) (fun hc28 => ?_) | refine TC.cond rfl (fun hc28 => ?_) (fun hc28 => ?_)
    · try dsimp only at hc28
      refine TC.skip' ?_; refine TC.seq ?_; refine TC.block ?_; refine TC.seq ?_; refine TC.region ?_; refine TL.run1 (pure_move rfl) rfl ?_; refine TL.run1 (pure_assign rfl) rfl ?_; refine TL.nil' ?_
      have his : i < s.size := by omega
      have hbi := byt_lt s i
      refine TC.regionCut [30, 31, 32, 33, 34, 35, 36, 37, 38, 39] 39 (¬ (32 ≤ ((byt s i : Nat) : Int) ∧ ((byt s i : Nat) : Int) ≤ 126)) ?_ ?_
      · skip
        refine TL.run1 (pure_move rfl) rfl ?_; refine TL.run1 (pure_move rfl) rfl ?_; refine TL.run1 (pure_index_byt (j := i) Try.underlying9 rfl rfl rfl (by omega)) rfl ?_; refine TL.run1 (pure_lss rfl rfl) rfl ?_; refine TL.run1 (pure_move rfl) rfl ?_
        first | refine TL.splitP 34 rfl (fun hg34 => ?_) (fun hg34 => ?_) | refine TL.split 34 rfl (fun hg34 => ?_) (fun hg34 => ?_)
        · try dsimp only at hg34
          refine TL.passG rfl rfl rfl rfl ?_; refine TL.passG rfl rfl rfl rfl ?_; refine TL.passG rfl rfl rfl rfl ?_; refine TL.passG rfl rfl rfl rfl ?_; refine TL.run1 (pure_pick_true rfl rfl) rfl ?_; refine TL.cutEnd (by repeat (first | exact Same.refl _ _ | refine Same.put rfl ?_)) rfl ?_
          first | (simp only [decide_eq_true_eq]; omega) | (simp; omega) | (simp_all; omega)
        · try dsimp only at hg34
          refine TL.runG rfl rfl (pure_move rfl) rfl ?_; refine TL.runG rfl rfl (pure_move rfl) rfl ?_; refine TL.runG rfl rfl (pure_index_byt (j := i) Try.underlying9 rfl rfl rfl (by omega)) rfl ?_; refine TL.runG rfl rfl (pure_gtr rfl rfl) rfl ?_; refine TL.run1 (pure_pick_false rfl rfl) rfl ?_; refine TL.cutEnd (by repeat (first | exact Same.refl _ _ | refine Same.put rfl ?_)) rfl ?_
          first | (simp only [decide_eq_true_eq]; omega) | (simp; omega) | (simp_all; omega)
      first | refine TC.condD rfl (fun hc39 => ?_) (fun hc39 => ?_) | refine TC.condN rfl (fun hc39 => ?_) (fun hc39 => ?_) | refine TC.cond rfl (fun hc39 => ?_) (fun hc39 => ?_)
      · try dsimp only at hc39
        refine TC.seq ?_; refine TC.region ?_; refine TL.run1 (pure_assign rfl) rfl ?_; refine TL.nil' ?_; refine TC.ret ?_; refine block_ret ?_; refine then_ret ?_; refine loop_ret ?_; refine block_ret ?_; refine then_ret ?_
        exact ret_bool rfl (decide_eq_false (fun h => hc39 (by have := h.2 i his; omega))).symm
      · try dsimp only at hc39
        refine TC.skip ?_; refine block_normal ?_; refine then_normal ?_; refine TC.region ?_; refine TL.run1 (pure_add rfl rfl (mkI64 (by omega) (by omega))) rfl ?_; refine TL.run1 (pure_move rfl) rfl ?_; refine TL.nil ?_
        have hq := Classical.not_not.1 hc39
        refine loop_next (i + 1) ⟨by ((try dsimp only); rw [show (((i + 1 : Nat)) : Int) = (i : Int) + 1 by omega]; repeat (first | exact Agree.nil | refine Agree.cons rfl ?_)), by repeat (first | exact List.nil_sublist _ | exact List.Sublist.refl _ | apply List.Sublist.cons_cons | apply List.Sublist.cons)⟩ ⟨by omega, fun j h => by rcases Nat.lt_or_eq_of_le (Nat.le_of_lt_succ h) with h | h; exact h2 j h; subst h; omega⟩ (by omega)
    · try dsimp only at hc28
      refine TC.exit ?_; refine then_exit ?_; refine loop_exit ?_; refine block_here ?_; refine then_normal ?_; refine TC.seq ?_; refine TC.region ?_; refine TL.run1 (pure_assign rfl) rfl ?_; refine TL.nil' ?_; refine TC.ret ?_
      exact ret_bool rfl (decide_eq_true ⟨hh, fun j h => h2 j (by omega)⟩).symm
set_option maxRecDepth 100000 in
theorem RIsName_spec (s : ByteArray) (hs : s.size ≤ 1000000000) : Fun Try.prog 18 [.v (.string s)] (.v (.bool (decide (NameP s)))) := by
  refine Fun.enter (n := 41) (rs := [.tmp 2]) Try.func18 rfl Try.ntmps18 Try.results18 rfl (fun w F => ?_)
  have hb0 := byt_lt s 0
  have hb1 := byt_lt s (s.size - 1)
  refine TC.seq ?_; refine TC.region ?_; refine TL.run1 (pure_assign rfl) rfl ?_; refine TL.nil' ?_; refine TC.seq ?_; refine TC.regionCut [4, 5, 6, 7, 8, 9, 10, 11, 12, 13, 14, 15, 16, 17, 18, 19, 20, 21, 22, 23, 24] 24 (¬ HeadP s) ?_ ?_
  · skip
    refine TL.run1 (pure_move rfl) rfl ?_; refine TL.run1 (pure_len_str Try.underlying9 rfl) rfl ?_; refine TL.run1 (pure_lss rfl rfl) rfl ?_; refine TL.run1 (pure_move rfl) rfl ?_
    first | refine TL.splitP 7 rfl (fun hg7 => ?_) (fun hg7 => ?_) | refine TL.split 7 rfl (fun hg7 => ?_) (fun hg7 => ?_)
    · try dsimp only at hg7
      refine TL.passG rfl rfl rfl rfl ?_; refine TL.passG rfl rfl rfl rfl ?_; refine TL.passG rfl rfl rfl rfl ?_; refine TL.run1 (pure_pick_true rfl rfl) rfl ?_; refine TL.run1 (pure_move rfl) rfl ?_; refine TL.passG rfl rfl rfl rfl ?_; refine TL.passG rfl rfl rfl rfl ?_; refine TL.passG rfl rfl rfl rfl ?_; refine TL.run1 (pure_pick_true rfl rfl) rfl ?_; refine TL.run1 (pure_move rfl) rfl ?_; refine TL.passG rfl rfl rfl rfl ?_; refine TL.passG rfl rfl rfl rfl ?_; refine TL.passG rfl rfl rfl rfl ?_; refine TL.passG rfl rfl rfl rfl ?_; refine TL.passG rfl rfl rfl rfl ?_; refine TL.passG rfl rfl rfl rfl ?_; refine TL.run1 (pure_pick_true rfl rfl) rfl ?_; refine TL.cutEnd (by repeat (first | exact Same.refl _ _ | refine Same.put rfl ?_)) rfl ?_
      first | (unfold HeadP; simp_all; done) | (unfold HeadP; simp_all; omega) | (unfold HeadP; grind)
    · try dsimp only at hg7
      refine TL.runG rfl rfl (pure_move rfl) rfl ?_; refine TL.runG rfl rfl (pure_len_str Try.underlying9 rfl) rfl ?_; refine TL.runG rfl rfl (pure_gtr rfl rfl) rfl ?_; refine TL.run1 (pure_pick_false rfl rfl) rfl ?_; refine TL.run1 (pure_move rfl) rfl ?_
      first | refine TL.splitP 12 rfl (fun hg12 => ?_) (fun hg12 => ?_) | refine TL.split 12 rfl (fun hg12 => ?_) (fun hg12 => ?_)
      · try dsimp only at hg12
        refine TL.passG rfl rfl rfl rfl ?_; refine TL.passG rfl rfl rfl rfl ?_; refine TL.passG rfl rfl rfl rfl ?_; refine TL.run1 (pure_pick_true rfl rfl) rfl ?_; refine TL.run1 (pure_move rfl) rfl ?_; refine TL.passG rfl rfl rfl rfl ?_; refine TL.passG rfl rfl rfl rfl ?_; refine TL.passG rfl rfl rfl rfl ?_; refine TL.passG rfl rfl rfl rfl ?_; refine TL.passG rfl rfl rfl rfl ?_; refine TL.passG rfl rfl rfl rfl ?_; refine TL.run1 (pure_pick_true rfl rfl) rfl ?_; refine TL.cutEnd (by repeat (first | exact Same.refl _ _ | refine Same.put rfl ?_)) rfl ?_
        first | (unfold HeadP; simp_all; done) | (unfold HeadP; simp_all; omega) | (unfold HeadP; grind)
      · try dsimp only at hg12
        refine TL.runG rfl rfl (pure_move rfl) rfl ?_; refine TL.runG rfl rfl (pure_index_byt (j := 0) Try.underlying9 rfl rfl (by first | rfl | omega | (simp_all; omega)) (by first | omega | (simp_all; omega))) rfl ?_; refine TL.runG rfl rfl (pure_eql rfl rfl) rfl ?_; refine TL.run1 (pure_pick_false rfl rfl) rfl ?_; refine TL.run1 (pure_move rfl) rfl ?_
        first | refine TL.splitP 17 rfl (fun hg17 => ?_) (fun hg17 => ?_) | refine TL.split 17 rfl (fun hg17 => ?_) (fun hg17 => ?_)
        · try dsimp only at hg17
          refine TL.passG rfl rfl rfl rfl ?_; refine TL.passG rfl rfl rfl rfl ?_; refine TL.passG rfl rfl rfl rfl ?_; refine TL.passG rfl rfl rfl rfl ?_; refine TL.passG rfl rfl rfl rfl ?_; refine TL.passG rfl rfl rfl rfl ?_; refine TL.run1 (pure_pick_true rfl rfl) rfl ?_; refine TL.cutEnd (by repeat (first | exact Same.refl _ _ | refine Same.put rfl ?_)) rfl ?_
          first | (unfold HeadP; simp_all; done) | (unfold HeadP; simp_all; omega) | (unfold HeadP; grind)
        · try dsimp only at hg17
          refine TL.runG rfl rfl (pure_move rfl) rfl ?_; refine TL.runG rfl rfl (pure_move rfl) rfl ?_; refine TL.runG rfl rfl (pure_len_str Try.underlying9 rfl) rfl ?_; refine TL.runG rfl rfl (pure_sub rfl rfl (mkI64 (by omega) (by omega))) rfl ?_; refine TL.runG rfl rfl (pure_index_byt (j := s.size - 1) Try.underlying9 rfl rfl (by first | rfl | omega | (simp_all; omega)) (by first | omega | (simp_all; omega))) rfl ?_; refine TL.runG rfl rfl (pure_eql rfl rfl) rfl ?_; refine TL.run1 (pure_pick_false rfl rfl) rfl ?_; refine TL.cutEnd (by repeat (first | exact Same.refl _ _ | refine Same.put rfl ?_)) rfl ?_
          first | (unfold HeadP; simp_all; done) | (unfold HeadP; simp_all; omega) | (unfold HeadP; grind)
  first | refine TC.condD rfl (fun hc24 => ?_) (fun hc24 => ?_) | refine TC.condN rfl (fun hc24 => ?_) (fun hc24 => ?_) | refine TC.cond rfl (fun hc24 => ?_) (fun hc24 => ?_)
  · try dsimp only at hc24
    refine TC.seq ?_; refine TC.region ?_; refine TL.run1 (pure_assign rfl) rfl ?_; refine TL.nil' ?_; refine TC.ret ?_; refine then_ret ?_
    exact ret_bool rfl (decide_eq_false (fun h => hc24 h.1)).symm
  · try dsimp only at hc24
    have hh : HeadP s := Classical.not_not.1 hc24
    have hhs := hh.2.1
    refine TC.skip' ?_; refine TC.seq ?_; refine TC.seq ?_; refine TC.region ?_; refine TL.run1 (pure_assign rfl) rfl ?_; refine TL.nil' ?_; refine TC.block ?_; refine TC.loopX (X := Nat) (fun i => [(0, .v (.string s)), (3, .v (.int .i64 i))]) (fun i => []) (fun i => (i ≤ s.size) ∧ (∀ j, j < i → 32 ≤ byt s j ∧ byt s j ≤ 126)) (fun i => s.size - i) (0) ⟨by skip; repeat (first | exact Agree.nil | refine Agree.cons rfl ?_), by skip; repeat (first | exact List.nil_sublist _ | exact List.Sublist.refl _ | apply List.Sublist.cons_cons | apply List.Sublist.cons)⟩ ?_ ?_
    · skip
      exact ⟨Nat.zero_le _, fun j h => by omega⟩
    intro i
    rintro ⟨h1, h2⟩
    show TC _ _ _ (Env.of [(0, .v (.string s)), (3, .v (.int .i64 i))]) []
    refine TC.seq ?_; refine TC.seq ?_; refine TC.region ?_; refine TL.run1 (pure_move rfl) rfl ?_; refine TL.run1 (pure_move rfl) rfl ?_; refine TL.run1 (pure_len_str Try.underlying9 rfl) rfl ?_; refine TL.run1 (pure_lss rfl rfl) rfl ?_; refine TL.nil' ?_
    first | refine TC.condD rfl (fun hc28 => ?_) (fun hc28 => ?_) | refine TC.condN rfl (fun hc28 => ?_) (fun hc28 => ?_) | refine TC.cond rfl (fun hc28 => ?_) (fun hc28 => ?_)
    · try dsimp only at hc28
      refine TC.skip' ?_; refine TC.seq ?_; refine TC.block ?_
      have his : i < s.size := by omega
      have hbi := byt_lt s i
      refine TC.regionCut [31, 32, 33, 34, 35, 36, 37, 38, 39, 40] 40 (¬ (32 ≤ ((byt s i : Nat) : Int) ∧ ((byt s i : Nat) : Int) ≤ 126)) ?_ ?_
      · skip
        refine TL.run1 (pure_move rfl) rfl ?_; refine TL.run1 (pure_move rfl) rfl ?_; refine TL.run1 (pure_index_byt (j := i) Try.underlying9 rfl rfl rfl (by omega)) rfl ?_; refine TL.run1 (pure_lss rfl rfl) rfl ?_; refine TL.run1 (pure_move rfl) rfl ?_
        first | refine TL.splitP 35 rfl (fun hg35 => ?_) (fun hg35 => ?_) | refine TL.split 35 rfl (fun hg35 => ?_) (fun hg35 => ?_)
        · try dsimp only at hg35
          refine TL.passG rfl rfl rfl rfl ?_; refine TL.passG rfl rfl rfl rfl ?_; refine TL.passG rfl rfl rfl rfl ?_; refine TL.passG rfl rfl rfl rfl ?_; refine TL.run1 (pure_pick_true rfl rfl) rfl ?_; refine TL.cutEnd (by repeat (first | exact Same.refl _ _ | refine Same.put rfl ?_)) rfl ?_
          first | (simp only [decide_eq_true_eq]; omega) | (simp; omega) | (simp_all; omega)
        · try dsimp only at hg35
          refine TL.runG rfl rfl (pure_move rfl) rfl ?_; refine TL.runG rfl rfl (pure_move rfl) rfl ?_; refine TL.runG rfl rfl (pure_index_byt (j := i) Try.underlying9 rfl rfl rfl (by omega)) rfl ?_; refine TL.runG rfl rfl (pure_gtr rfl rfl) rfl ?_; refine TL.run1 (pure_pick_false rfl rfl) rfl ?_; refine TL.cutEnd (by repeat (first | exact Same.refl _ _ | refine Same.put rfl ?_)) rfl ?_
          first | (simp only [decide_eq_true_eq]; omega) | (simp; omega) | (simp_all; omega)
      first | refine TC.condD rfl (fun hc40 => ?_) (fun hc40 => ?_) | refine TC.condN rfl (fun hc40 => ?_) (fun hc40 => ?_) | refine TC.cond rfl (fun hc40 => ?_) (fun hc40 => ?_)
      · try dsimp only at hc40
        refine TC.seq ?_; refine TC.region ?_; refine TL.run1 (pure_assign rfl) rfl ?_; refine TL.nil' ?_; refine TC.ret ?_; refine block_ret ?_; refine then_ret ?_; refine loop_ret ?_; refine block_ret ?_; refine then_ret ?_
        exact ret_bool rfl (decide_eq_false (fun h => hc40 (by have := h.2 i his; omega))).symm
      · try dsimp only at hc40
        refine TC.skip ?_; refine block_normal ?_; refine then_normal ?_; refine TC.region ?_; refine TL.run1 (pure_move rfl) rfl ?_; refine TL.run1 (pure_add rfl rfl (mkI64 (by omega) (by omega))) rfl ?_; refine TL.run1 (pure_assign rfl) rfl ?_; refine TL.nil ?_
        have hq := Classical.not_not.1 hc40
        refine loop_next (i + 1) ⟨by ((try dsimp only); rw [show (((i + 1 : Nat)) : Int) = (i : Int) + 1 by omega]; repeat (first | exact Agree.nil | refine Agree.cons rfl ?_)), by repeat (first | exact List.nil_sublist _ | exact List.Sublist.refl _ | apply List.Sublist.cons_cons | apply List.Sublist.cons)⟩ ⟨by omega, fun j h => by rcases Nat.lt_or_eq_of_le (Nat.le_of_lt_succ h) with h | h; exact h2 j h; subst h; omega⟩ (by omega)
    · try dsimp only at hc28
      refine TC.exit ?_; refine then_exit ?_; refine loop_exit ?_; refine block_here ?_; refine then_normal ?_; refine TC.seq ?_; refine TC.region ?_; refine TL.run1 (pure_assign rfl) rfl ?_; refine TL.nil' ?_; refine TC.ret ?_
      exact ret_bool rfl (decide_eq_true ⟨hh, fun j h => h2 j (by omega)⟩).symm
set_option maxRecDepth 100000 in
theorem RFind_spec (l : List Sty) (id : Int) (hl : l.length ≤ 1000000) : Fun Try.prog 26 [.sl 6 (encSs l), .v (.int .i64 id)] (.v (.int .i64 (findS l id))) := by
  refine Fun.enter (n := 20) (rs := [.tmp 4]) Try.func26 rfl Try.ntmps26 Try.results26 rfl (fun w F => ?_)
  have hk := encSs_len l
  refine TC.seq ?_; refine TC.region ?_; refine TL.run1 (pure_assign rfl) rfl ?_; refine TL.nil' ?_; refine TC.seq ?_; refine TC.seq ?_; refine TC.region ?_; refine TL.run1 (pure_assign rfl) rfl ?_; refine TL.nil' ?_; refine TC.block ?_; refine TC.loopX (X := Nat) (fun i => [(0, .sl 6 (encSs l)), (1, .v (.int .i64 id)), (5, .v (.int .i64 i))]) (fun i => []) (fun i => (i ≤ l.length) ∧ (findS l id = fiN (fun s => decide (s.id = id)) (l.drop i) i)) (fun i => l.length - i) (0) ⟨by skip; repeat (first | exact Agree.nil | refine Agree.cons rfl ?_), by skip; repeat (first | exact List.nil_sublist _ | exact List.Sublist.refl _ | apply List.Sublist.cons_cons | apply List.Sublist.cons)⟩ ?_ ?_
  · skip
    exact ⟨Nat.zero_le _, rfl⟩
  intro i
  rintro ⟨h1, h2⟩
  show TC _ _ _ (Env.of [(0, .sl 6 (encSs l)), (1, .v (.int .i64 id)), (5, .v (.int .i64 i))]) []
  refine TC.seq ?_; refine TC.seq ?_; refine TC.region ?_; refine TL.run1 (pure_move rfl) rfl ?_; refine TL.run1 (pure_move rfl) rfl ?_
  first | refine TL.run1 (pure_len Ty.sl22 rfl) rfl ?_ | refine TL.run1 (pure_len_row Ty.sl22 rfl (by repeat (first | exact List.Mem.head _ | apply List.Mem.tail))) rfl ?_ | refine TL.run1 (pure_len_nil Ty.sl22 rfl) rfl ?_
  refine TL.run1 (pure_lss rfl rfl) rfl ?_; refine TL.nil' ?_
  first | refine TC.condD rfl (fun hc9 => ?_) (fun hc9 => ?_) | refine TC.condN rfl (fun hc9 => ?_) (fun hc9 => ?_) | refine TC.cond rfl (fun hc9 => ?_) (fun hc9 => ?_)
  · try dsimp only at hc9
    refine TC.skip' ?_; refine TC.seq ?_; refine TC.block ?_; refine TC.seq ?_
    have hrow := encSs_get l i (by omega)
    refine TC.region ?_; refine TL.run1 (pure_move rfl) rfl ?_; refine TL.run1 (pure_move rfl) rfl ?_; refine TL.run1 (pure_indexAddr Ty.sl22 rfl rfl (by omega) hrow (List.cons_ne_nil _ _)) rfl ?_
    first | refine TL.run1 (pure_fieldAddr Ty.f28_0 rfl (.zero _) (List.cons_ne_nil _ _)) rfl ?_ | refine TL.run1 (pure_fieldAddr_own Ty.f28_0 rfl) rfl ?_
    first | refine TL.run1 (pure_load1 Ty.one3 rfl) rfl ?_ | refine TL.run1 (pure_load1_own Ty.one3 rfl (by repeat (first | exact List.Mem.head _ | apply List.Mem.tail)) (by repeat (first | exact DropR.zero _ | apply DropR.succ))) rfl ?_
    refine TL.run1 (pure_move rfl) rfl ?_; refine TL.run1 (pure_eql rfl rfl) rfl ?_; refine TL.nil' ?_
    first | refine TC.condD rfl (fun hc18 => ?_) (fun hc18 => ?_) | refine TC.condN rfl (fun hc18 => ?_) (fun hc18 => ?_) | refine TC.cond rfl (fun hc18 => ?_) (fun hc18 => ?_)
    · try dsimp only at hc18
      refine TC.seq ?_; refine TC.region ?_; refine TL.run1 (pure_move rfl) rfl ?_; refine TL.run1 (pure_assign rfl) rfl ?_; refine TL.nil' ?_; refine TC.ret ?_; refine block_ret ?_; refine then_ret ?_; refine loop_ret ?_; refine block_ret ?_; refine then_ret ?_
      exact ret_int rfl (by rw [h2, fiN_step _ _ _ (by omega), if_pos (by simpa using hc18)])
    · try dsimp only at hc18
      refine TC.skip ?_; refine block_normal ?_; refine then_normal ?_; refine TC.region ?_; refine TL.run1 (pure_move rfl) rfl ?_; refine TL.run1 (pure_add rfl rfl (mkI64 (by omega) (by omega))) rfl ?_; refine TL.run1 (pure_assign rfl) rfl ?_; refine TL.nil ?_
      refine loop_next (i + 1) ⟨by ((try dsimp only); rw [show (((i + 1 : Nat)) : Int) = (i : Int) + 1 by omega]; repeat (first | exact Agree.nil | refine Agree.cons rfl ?_)), by repeat (first | exact List.nil_sublist _ | exact List.Sublist.refl _ | apply List.Sublist.cons_cons | apply List.Sublist.cons)⟩ ⟨by omega, by rw [h2, fiN_step _ _ _ (by omega), if_neg (by simpa using hc18)]⟩ (by omega)
  · try dsimp only at hc9
    refine TC.exit ?_; refine then_exit ?_; refine loop_exit ?_; refine block_here ?_; refine then_normal ?_; refine TC.seq ?_; refine TC.region ?_; refine TL.run1 (pure_assign rfl) rfl ?_; refine TL.nil' ?_; refine TC.ret ?_
    exact ret_int rfl (by rw [h2, fiN_end _ _ _ (by omega)])
end Go.Ob
set_option linter.unusedVariables false
set_option linter.unusedSimpArgs false
namespace Go.Ob
open Go.Proofs

theorem fiN_range (p : Sty → Bool) : ∀ (l : List Sty) (i : Nat), fiN p l i = -1 ∨ ((i : Int) ≤ fiN p l i ∧ fiN p l i < i + l.length)
  | [], _ => .inl rfl
  | s :: l, i => by
    rw [fiN]
    split
    · right; simp only [List.length_cons]; omega
    · rcases fiN_range p l (i + 1) with h | h
      · exact .inl h
      · right; simp only [List.length_cons]; omega
theorem findS_range (l : List Sty) (id : Int) : findS l id = -1 ∨ (0 ≤ findS l id ∧ findS l id < l.length) := by
  have := fiN_range (fun s => decide (s.id = id)) l 0
  unfold findS; omega
def isP (l : List Sty) (kind id : Int) : Prop := 0 ≤ findS l id ∧ (yAt l (findS l id).toNat).kind = kind
instance (l : List Sty) (kind id : Int) : Decidable (isP l kind id) := by unfold isP; infer_instance
def SmallP (l : List Sty) : Prop := l.length ≤ 24 ∧ ∀ i, i < l.length → (yAt l i).props.length ≤ 50 ∧ (yAt l i).name.size ≤ 100
instance (l : List Sty) : Decidable (SmallP l) := by unfold SmallP; infer_instance
set_option maxRecDepth 100000 in
theorem Small_spec (l : List Sty) (hl : l.length ≤ 9223372036854775807) : Fun Try.prog 14 [.sl 6 (encSs l)] (.v (.bool (decide (SmallP l)))) := by
  refine Fun.enter (n := 29) (rs := [.tmp 2]) Try.func14 rfl Try.ntmps14 Try.results14 rfl (fun w F => ?_)
  have hk := encSs_len l
  refine TC.seq ?_; refine TC.region ?_; refine TL.run1 (pure_assign rfl) rfl ?_; refine TL.nil' ?_; refine TC.seq ?_; refine TC.seq ?_; refine TC.region ?_; refine TL.run1 (pure_move rfl) rfl ?_
  first | refine TL.run1 (pure_len Ty.sl22 rfl) rfl ?_ | refine TL.run1 (pure_len_row Ty.sl22 rfl (by repeat (first | exact List.Mem.head _ | apply List.Mem.tail))) rfl ?_ | refine TL.run1 (pure_len_nil Ty.sl22 rfl) rfl ?_
  refine TL.run1 (pure_gtr rfl rfl) rfl ?_; refine TL.nil' ?_
  first | refine TC.condD rfl (fun hc6 => ?_) (fun hc6 => ?_) | refine TC.condN rfl (fun hc6 => ?_) (fun hc6 => ?_) | refine TC.cond rfl (fun hc6 => ?_) (fun hc6 => ?_)
  · try dsimp only at hc6
    refine TC.seq ?_; refine TC.region ?_; refine TL.run1 (pure_assign rfl) rfl ?_; refine TL.nil' ?_; refine TC.ret ?_; refine then_ret ?_
    exact ret_bool rfl (decide_eq_false (fun h => by have := h.1; omega)).symm
  · try dsimp only at hc6
    refine TC.skip' ?_; refine TC.seq ?_; refine TC.seq ?_; refine TC.region ?_; refine TL.run1 (pure_assign rfl) rfl ?_; refine TL.nil' ?_; refine TC.block ?_; refine TC.loopX (X := Nat) (fun i => [(0, .sl 6 (encSs l)), (3, .v (.int .i64 i))]) (fun i => []) (fun i => (i ≤ l.length) ∧ (∀ j, j < i → (yAt l j).props.length ≤ 50 ∧ (yAt l j).name.size ≤ 100)) (fun i => l.length - i) (0) ⟨by skip; repeat (first | exact Agree.nil | refine Agree.cons rfl ?_), by skip; repeat (first | exact List.nil_sublist _ | exact List.Sublist.refl _ | apply List.Sublist.cons_cons | apply List.Sublist.cons)⟩ ?_ ?_
    · skip
      exact ⟨Nat.zero_le _, fun j h => by omega⟩
    intro i
    rintro ⟨h1, h2⟩
    show TC _ _ _ (Env.of [(0, .sl 6 (encSs l)), (3, .v (.int .i64 i))]) []
    refine TC.seq ?_; refine TC.seq ?_; refine TC.region ?_; refine TL.run1 (pure_move rfl) rfl ?_; refine TL.run1 (pure_move rfl) rfl ?_
    first | refine TL.run1 (pure_len Ty.sl22 rfl) rfl ?_ | refine TL.run1 (pure_len_row Ty.sl22 rfl (by repeat (first | exact List.Mem.head _ | apply List.Mem.tail))) rfl ?_ | refine TL.run1 (pure_len_nil Ty.sl22 rfl) rfl ?_
    refine TL.run1 (pure_lss rfl rfl) rfl ?_; refine TL.nil' ?_
    first | refine TC.condD rfl (fun hc10 => ?_) (fun hc10 => ?_) | refine TC.condN rfl (fun hc10 => ?_) (fun hc10 => ?_) | refine TC.cond rfl (fun hc10 => ?_) (fun hc10 => ?_)
    · try dsimp only at hc10
      refine TC.skip' ?_; refine TC.seq ?_; refine TC.block ?_
      have hil : i < l.length := by omega
      have hrow := encSs_get l i (by omega)
      have hpl := encP_len (yAt l i).props
      refine TC.regionCut [13, 14, 15, 16, 17, 18, 19, 20, 21, 22, 23, 24, 25, 26, 27, 28] 28 (50 < (((yAt l i).props.length : Nat) : Int) ∨ 100 < (((yAt l i).name.size : Nat) : Int)) ?_ ?_
      · skip
        refine TL.run1 (pure_move rfl) rfl ?_; refine TL.run1 (pure_move rfl) rfl ?_; refine TL.run1 (pure_indexAddr Ty.sl22 rfl rfl (by omega) hrow (List.cons_ne_nil _ _)) rfl ?_
        first | refine TL.run1 (pure_fieldAddr Ty.f28_5 rfl (.succ (.succ (.succ (.succ (.succ (.zero _)))))) (List.cons_ne_nil _ _)) rfl ?_ | refine TL.run1 (pure_fieldAddr_own Ty.f28_5 rfl) rfl ?_
        first | refine TL.run1 (pure_load1 Ty.one26 rfl) rfl ?_ | refine TL.run1 (pure_load1_own Ty.one26 rfl (by repeat (first | exact List.Mem.head _ | apply List.Mem.tail)) (by repeat (first | exact DropR.zero _ | apply DropR.succ))) rfl ?_
        first | refine TL.run1 (pure_len Ty.sl26 rfl) rfl ?_ | refine TL.run1 (pure_len_row Ty.sl26 rfl (by repeat (first | exact List.Mem.head _ | apply List.Mem.tail))) rfl ?_ | refine TL.run1 (pure_len_nil Ty.sl26 rfl) rfl ?_
        refine TL.run1 (pure_gtr rfl rfl) rfl ?_; refine TL.run1 (pure_move rfl) rfl ?_
        first | refine TL.splitP 20 rfl (fun hg20 => ?_) (fun hg20 => ?_) | refine TL.split 20 rfl (fun hg20 => ?_) (fun hg20 => ?_)
        · try dsimp only at hg20
          refine TL.passG rfl rfl rfl rfl ?_; refine TL.passG rfl rfl rfl rfl ?_; refine TL.passG rfl rfl rfl rfl ?_; refine TL.passG rfl rfl rfl rfl ?_; refine TL.passG rfl rfl rfl rfl ?_; refine TL.passG rfl rfl rfl rfl ?_; refine TL.passG rfl rfl rfl rfl ?_; refine TL.run1 (pure_pick_true rfl rfl) rfl ?_; refine TL.cutEnd (by repeat (first | exact Same.refl _ _ | refine Same.put rfl ?_)) rfl ?_
          first | (simp_all; done) | (simp_all; omega) | grind
        · try dsimp only at hg20
          refine TL.runG rfl rfl (pure_move rfl) rfl ?_; refine TL.runG rfl rfl (pure_move rfl) rfl ?_; refine TL.runG rfl rfl (pure_indexAddr Ty.sl22 rfl rfl (by omega) hrow (List.cons_ne_nil _ _)) rfl ?_
          first | refine TL.runG rfl rfl (pure_fieldAddr Ty.f28_2 rfl (.succ (.succ (.zero _))) (List.cons_ne_nil _ _)) rfl ?_ | refine TL.runG rfl rfl (pure_fieldAddr_own Ty.f28_2 rfl) rfl ?_
          first | refine TL.runG rfl rfl (pure_load1 Ty.one9 rfl) rfl ?_ | refine TL.runG rfl rfl (pure_load1_own Ty.one9 rfl (by repeat (first | exact List.Mem.head _ | apply List.Mem.tail)) (by repeat (first | exact DropR.zero _ | apply DropR.succ))) rfl ?_
          refine TL.runG rfl rfl (pure_len_str Try.underlying9 rfl) rfl ?_; refine TL.runG rfl rfl (pure_gtr rfl rfl) rfl ?_; refine TL.run1 (pure_pick_false rfl rfl) rfl ?_; refine TL.cutEnd (by repeat (first | exact Same.refl _ _ | refine Same.put rfl ?_)) rfl ?_
          first | (simp_all; done) | (simp_all; omega) | grind
      first | refine TC.condD rfl (fun hc28 => ?_) (fun hc28 => ?_) | refine TC.condN rfl (fun hc28 => ?_) (fun hc28 => ?_) | refine TC.cond rfl (fun hc28 => ?_) (fun hc28 => ?_)
      · try dsimp only at hc28
        refine TC.seq ?_; refine TC.region ?_; refine TL.run1 (pure_assign rfl) rfl ?_; refine TL.nil' ?_; refine TC.ret ?_; refine block_ret ?_; refine then_ret ?_; refine loop_ret ?_; refine block_ret ?_; refine then_ret ?_
        exact ret_bool rfl (decide_eq_false (fun h => by have := h.2 i hil; omega)).symm
      · try dsimp only at hc28
        refine TC.skip ?_; refine block_normal ?_; refine then_normal ?_; refine TC.region ?_; refine TL.run1 (pure_move rfl) rfl ?_; refine TL.run1 (pure_add rfl rfl (mkI64 (by omega) (by omega))) rfl ?_; refine TL.run1 (pure_assign rfl) rfl ?_; refine TL.nil ?_
        refine loop_next (i + 1) ⟨by ((try dsimp only); rw [show (((i + 1 : Nat)) : Int) = (i : Int) + 1 by omega]; repeat (first | exact Agree.nil | refine Agree.cons rfl ?_)), by repeat (first | exact List.nil_sublist _ | exact List.Sublist.refl _ | apply List.Sublist.cons_cons | apply List.Sublist.cons)⟩ ⟨by omega, fun j h => by rcases Nat.lt_or_eq_of_le (Nat.le_of_lt_succ h) with h | h; exact h2 j h; subst h; omega⟩ (by omega)
    · try dsimp only at hc10
      refine TC.exit ?_; refine then_exit ?_; refine loop_exit ?_; refine block_here ?_; refine then_normal ?_; refine TC.seq ?_; refine TC.region ?_; refine TL.run1 (pure_assign rfl) rfl ?_; refine TL.nil' ?_; refine TC.ret ?_
      exact ret_bool rfl (decide_eq_true ⟨by omega, fun j h => h2 j (by omega)⟩).symm
set_option maxRecDepth 100000 in
theorem element_spec (k : Int) : Fun Try.prog 69 [.v (.int .i64 k)] (.v (.int .i64 (if k = 1 then 2 else 1))) := by
  refine Fun.enter (n := 5) (rs := [.tmp 2]) Try.func69 rfl Try.ntmps69 Try.results69 rfl (fun w F => ?_)
  refine TC.seq ?_; refine TC.region ?_; refine TL.run1 (pure_assign rfl) rfl ?_; refine TL.nil' ?_; refine TC.seq ?_; refine TC.seq ?_; refine TC.region ?_; refine TL.run1 (pure_move rfl) rfl ?_; refine TL.run1 (pure_eql rfl rfl) rfl ?_; refine TL.nil' ?_
  first | refine TC.condD rfl (fun hc4 => ?_) (fun hc4 => ?_) | refine TC.condN rfl (fun hc4 => ?_) (fun hc4 => ?_) | refine TC.cond rfl (fun hc4 => ?_) (fun hc4 => ?_)
  · try dsimp only at hc4
    refine TC.seq ?_; refine TC.region ?_; refine TL.run1 (pure_assign rfl) rfl ?_; refine TL.nil' ?_; refine TC.ret ?_; refine then_ret ?_
    exact ret_int rfl (by rw [if_pos hc4])
  · try dsimp only at hc4
    refine TC.skip' ?_; refine TC.seq ?_; refine TC.region ?_; refine TL.run1 (pure_assign rfl) rfl ?_; refine TL.nil' ?_; refine TC.ret ?_
    exact ret_int rfl (by rw [if_neg hc4])
set_option maxRecDepth 100000 in
theorem RElement_spec (k : Int) : Fun Try.prog 71 [.v (.int .i64 k)] (.v (.int .i64 (if k = 1 then 2 else 1))) := by
  refine Fun.enter (n := 5) (rs := [.tmp 2]) Try.func71 rfl Try.ntmps71 Try.results71 rfl (fun w F => ?_)
  refine TC.seq ?_; refine TC.region ?_; refine TL.run1 (pure_assign rfl) rfl ?_; refine TL.nil' ?_; refine TC.seq ?_; refine TC.seq ?_; refine TC.region ?_; refine TL.run1 (pure_move rfl) rfl ?_; refine TL.run1 (pure_eql rfl rfl) rfl ?_; refine TL.nil' ?_
  first | refine TC.condD rfl (fun hc4 => ?_) (fun hc4 => ?_) | refine TC.condN rfl (fun hc4 => ?_) (fun hc4 => ?_) | refine TC.cond rfl (fun hc4 => ?_) (fun hc4 => ?_)
  · try dsimp only at hc4
    refine TC.seq ?_; refine TC.region ?_; refine TL.run1 (pure_assign rfl) rfl ?_; refine TL.nil' ?_; refine TC.ret ?_; refine then_ret ?_
    exact ret_int rfl (by rw [if_pos hc4])
  · try dsimp only at hc4
    refine TC.skip' ?_; refine TC.seq ?_; refine TC.region ?_; refine TL.run1 (pure_assign rfl) rfl ?_; refine TL.nil' ?_; refine TC.ret ?_
    exact ret_int rfl (by rw [if_neg hc4])
set_option maxRecDepth 100000 in
theorem RFindName_spec (l : List Sty) (kind : Int) (name : ByteArray) (hl : l.length ≤ 1000000) : Fun Try.prog 27 [.sl 6 (encSs l), .v (.int .i64 kind), .v (.string name)] (.v (.int .i64 (findN l kind name))) := by
  refine Fun.enter (n := 31) (rs := [.tmp 6]) Try.func27 rfl Try.ntmps27 Try.results27 rfl (fun w F => ?_)
  have hk := encSs_len l
  refine TC.seq ?_; refine TC.region ?_; refine TL.run1 (pure_assign rfl) rfl ?_; refine TL.nil' ?_; refine TC.seq ?_; refine TC.seq ?_; refine TC.region ?_; refine TL.run1 (pure_assign rfl) rfl ?_; refine TL.nil' ?_; refine TC.block ?_; refine TC.loopX (X := Nat) (fun i => [(0, .sl 6 (encSs l)), (1, .v (.int .i64 kind)), (2, .v (.string name)), (7, .v (.int .i64 i))]) (fun i => []) (fun i => (i ≤ l.length) ∧ (findN l kind name = fiN (fun s => decide (s.kind = kind ∧ s.name = name)) (l.drop i) i)) (fun i => l.length - i) (0) ⟨by skip; repeat (first | exact Agree.nil | refine Agree.cons rfl ?_), by skip; repeat (first | exact List.nil_sublist _ | exact List.Sublist.refl _ | apply List.Sublist.cons_cons | apply List.Sublist.cons)⟩ ?_ ?_
  · skip
    exact ⟨Nat.zero_le _, rfl⟩
  intro i
  rintro ⟨h1, h2⟩
  show TC _ _ _ (Env.of [(0, .sl 6 (encSs l)), (1, .v (.int .i64 kind)), (2, .v (.string name)), (7, .v (.int .i64 i))]) []
  refine TC.seq ?_; refine TC.seq ?_; refine TC.region ?_; refine TL.run1 (pure_move rfl) rfl ?_; refine TL.run1 (pure_move rfl) rfl ?_
  first | refine TL.run1 (pure_len Ty.sl22 rfl) rfl ?_ | refine TL.run1 (pure_len_row Ty.sl22 rfl (by repeat (first | exact List.Mem.head _ | apply List.Mem.tail))) rfl ?_ | refine TL.run1 (pure_len_nil Ty.sl22 rfl) rfl ?_
  refine TL.run1 (pure_lss rfl rfl) rfl ?_; refine TL.nil' ?_
  first | refine TC.condD rfl (fun hc11 => ?_) (fun hc11 => ?_) | refine TC.condN rfl (fun hc11 => ?_) (fun hc11 => ?_) | refine TC.cond rfl (fun hc11 => ?_) (fun hc11 => ?_)
  · try dsimp only at hc11
    refine TC.skip' ?_; refine TC.seq ?_; refine TC.block ?_
    have hrow := encSs_get l i (by omega)
    refine TC.regionCut [14, 15, 16, 17, 18, 19, 20, 21, 22, 23, 24, 25, 26, 27, 28, 29] 29 ((yAt l i).kind = kind ∧ (yAt l i).name = name) ?_ ?_
    · skip
      refine TL.run1 (pure_move rfl) rfl ?_; refine TL.run1 (pure_move rfl) rfl ?_; refine TL.run1 (pure_indexAddr Ty.sl22 rfl rfl (by omega) hrow (List.cons_ne_nil _ _)) rfl ?_
      first | refine TL.run1 (pure_fieldAddr Ty.f28_1 rfl (.succ (.zero _)) (List.cons_ne_nil _ _)) rfl ?_ | refine TL.run1 (pure_fieldAddr_own Ty.f28_1 rfl) rfl ?_
      first | refine TL.run1 (pure_load1 Ty.one3 rfl) rfl ?_ | refine TL.run1 (pure_load1_own Ty.one3 rfl (by repeat (first | exact List.Mem.head _ | apply List.Mem.tail)) (by repeat (first | exact DropR.zero _ | apply DropR.succ))) rfl ?_
      refine TL.run1 (pure_move rfl) rfl ?_; refine TL.run1 (pure_eql rfl rfl) rfl ?_; refine TL.run1 (pure_move rfl) rfl ?_
      first | refine TL.splitP 21 rfl (fun hg21 => ?_) (fun hg21 => ?_) | refine TL.split 21 rfl (fun hg21 => ?_) (fun hg21 => ?_)
      · try dsimp only at hg21
        refine TL.runG rfl rfl (pure_move rfl) rfl ?_; refine TL.runG rfl rfl (pure_move rfl) rfl ?_; refine TL.runG rfl rfl (pure_indexAddr Ty.sl22 rfl rfl (by omega) hrow (List.cons_ne_nil _ _)) rfl ?_
        first | refine TL.runG rfl rfl (pure_fieldAddr Ty.f28_2 rfl (.succ (.succ (.zero _))) (List.cons_ne_nil _ _)) rfl ?_ | refine TL.runG rfl rfl (pure_fieldAddr_own Ty.f28_2 rfl) rfl ?_
        first | refine TL.runG rfl rfl (pure_load1 Ty.one9 rfl) rfl ?_ | refine TL.runG rfl rfl (pure_load1_own Ty.one9 rfl (by repeat (first | exact List.Mem.head _ | apply List.Mem.tail)) (by repeat (first | exact DropR.zero _ | apply DropR.succ))) rfl ?_
        refine TL.runG rfl rfl (pure_move rfl) rfl ?_; refine TL.runG rfl rfl (pure_eql_string rfl rfl) rfl ?_; refine TL.run1 (pure_pick_true rfl rfl) rfl ?_; refine TL.cutEnd (by repeat (first | exact Same.refl _ _ | refine Same.put rfl ?_)) rfl ?_
        first | (simp_all; done) | grind
      · try dsimp only at hg21
        refine TL.passG rfl rfl rfl rfl ?_; refine TL.passG rfl rfl rfl rfl ?_; refine TL.passG rfl rfl rfl rfl ?_; refine TL.passG rfl rfl rfl rfl ?_; refine TL.passG rfl rfl rfl rfl ?_; refine TL.passG rfl rfl rfl rfl ?_; refine TL.passG rfl rfl rfl rfl ?_; refine TL.run1 (pure_pick_false rfl rfl) rfl ?_; refine TL.cutEnd (by repeat (first | exact Same.refl _ _ | refine Same.put rfl ?_)) rfl ?_
        first | (simp_all; done) | grind
    first | refine TC.condD rfl (fun hc29 => ?_) (fun hc29 => ?_) | refine TC.condN rfl (fun hc29 => ?_) (fun hc29 => ?_) | refine TC.cond rfl (fun hc29 => ?_) (fun hc29 => ?_)
    · try dsimp only at hc29
      refine TC.seq ?_; refine TC.region ?_; refine TL.run1 (pure_move rfl) rfl ?_; refine TL.run1 (pure_assign rfl) rfl ?_; refine TL.nil' ?_; refine TC.ret ?_; refine block_ret ?_; refine then_ret ?_; refine loop_ret ?_; refine block_ret ?_; refine then_ret ?_
      exact ret_int rfl (by rw [h2, fiN_step _ _ _ (by omega), if_pos (by simpa using hc29)])
    · try dsimp only at hc29
      refine TC.skip ?_; refine block_normal ?_; refine then_normal ?_; refine TC.region ?_; refine TL.run1 (pure_move rfl) rfl ?_; refine TL.run1 (pure_add rfl rfl (mkI64 (by omega) (by omega))) rfl ?_; refine TL.run1 (pure_assign rfl) rfl ?_; refine TL.nil ?_
      refine loop_next (i + 1) ⟨by ((try dsimp only); rw [show (((i + 1 : Nat)) : Int) = (i : Int) + 1 by omega]; repeat (first | exact Agree.nil | refine Agree.cons rfl ?_)), by repeat (first | exact List.nil_sublist _ | exact List.Sublist.refl _ | apply List.Sublist.cons_cons | apply List.Sublist.cons)⟩ ⟨by omega, by rw [h2, fiN_step _ _ _ (by omega), if_neg (by simpa using hc29)]⟩ (by omega)
  · try dsimp only at hc11
    refine TC.exit ?_; refine then_exit ?_; refine loop_exit ?_; refine block_here ?_; refine then_normal ?_; refine TC.seq ?_; refine TC.region ?_; refine TL.run1 (pure_assign rfl) rfl ?_; refine TL.nil' ?_; refine TC.ret ?_
    exact ret_int rfl (by rw [h2, fiN_end _ _ _ (by omega)])
set_option maxRecDepth 100000 in
theorem Find1_spec (s : Sty) (id : Int) : Fun Try.prog 54 [.agg [.v (.int .i64 s.id), .v (.int .i64 s.kind), .v (.string s.name), .v (.int .i64 s.base), .v (.int .i64 s.next), .sl 2 (encP s.props)], .at_ [.v (.int .i64 id)]] (.v (.bool (decide (s.id = id)))) := by
  refine Fun.enter (n := 8) (rs := [.tmp 3]) Try.func54 rfl Try.ntmps54 Try.results54 rfl (fun w F => ?_)
  refine TC.seq ?_; refine TC.region ?_
  refine TL.box rfl (.agg _) rfl (fun g2 => ?_)
  refine TL.run1 (pure_assign rfl) rfl ?_; refine TL.nil' ?_; refine TC.seq ?_; refine TC.region ?_
  first | refine TL.run1 (pure_fieldAddr Ty.f28_0 rfl (.zero _) (List.cons_ne_nil _ _)) rfl ?_ | refine TL.run1 (pure_fieldAddr_own Ty.f28_0 rfl) rfl ?_
  first | refine TL.run1 (pure_load1 Ty.one3 rfl) rfl ?_ | refine TL.run1 (pure_load1_own Ty.one3 rfl (by repeat (first | exact List.Mem.head _ | apply List.Mem.tail)) (by repeat (first | exact DropR.zero _ | apply DropR.succ))) rfl ?_
  first | refine TL.run1 (pure_load1 Ty.one3 rfl) rfl ?_ | refine TL.run1 (pure_load1_own Ty.one3 rfl (by repeat (first | exact List.Mem.head _ | apply List.Mem.tail)) (by repeat (first | exact DropR.zero _ | apply DropR.succ))) rfl ?_
  refine TL.run1 (pure_eql rfl rfl) rfl ?_; refine TL.run1 (pure_assign rfl) rfl ?_; refine TL.nil' ?_; refine TC.ret ?_
  exact ret_bool rfl rfl
set_option maxRecDepth 100000 in
theorem FindName1_spec (s : Sty) (kind : Int) (name : ByteArray) : Fun Try.prog 55 [.agg [.v (.int .i64 s.id), .v (.int .i64 s.kind), .v (.string s.name), .v (.int .i64 s.base), .v (.int .i64 s.next), .sl 2 (encP s.props)], .at_ [.v (.int .i64 kind)], .at_ [.v (.string name)]] (.v (.bool (decide (s.kind = kind ∧ s.name = name)))) := by
  refine Fun.enter (n := 15) (rs := [.tmp 4]) Try.func55 rfl Try.ntmps55 Try.results55 rfl (fun w F => ?_)
  refine TC.seq ?_; refine TC.region ?_
  refine TL.box rfl (.agg _) rfl (fun g3 => ?_)
  refine TL.run1 (pure_assign rfl) rfl ?_; refine TL.nil' ?_; refine TC.regionCut [5, 6, 7, 8, 9, 10, 11, 12, 13, 14, 4] 4 (s.kind = kind ∧ s.name = name) ?_ ?_
  · skip
    first | refine TL.run1 (pure_fieldAddr Ty.f28_1 rfl (.succ (.zero _)) (List.cons_ne_nil _ _)) rfl ?_ | refine TL.run1 (pure_fieldAddr_own Ty.f28_1 rfl) rfl ?_
    first | refine TL.run1 (pure_load1 Ty.one3 rfl) rfl ?_ | refine TL.run1 (pure_load1_own Ty.one3 rfl (by repeat (first | exact List.Mem.head _ | apply List.Mem.tail)) (by repeat (first | exact DropR.zero _ | apply DropR.succ))) rfl ?_
    first | refine TL.run1 (pure_load1 Ty.one3 rfl) rfl ?_ | refine TL.run1 (pure_load1_own Ty.one3 rfl (by repeat (first | exact List.Mem.head _ | apply List.Mem.tail)) (by repeat (first | exact DropR.zero _ | apply DropR.succ))) rfl ?_
    refine TL.run1 (pure_eql rfl rfl) rfl ?_; refine TL.run1 (pure_move rfl) rfl ?_
    first | refine TL.splitP 9 rfl (fun hg9 => ?_) (fun hg9 => ?_) | refine TL.split 9 rfl (fun hg9 => ?_) (fun hg9 => ?_)
    · try dsimp only at hg9
      first | refine TL.runG rfl rfl (pure_fieldAddr Ty.f28_2 rfl (.succ (.succ (.zero _))) (List.cons_ne_nil _ _)) rfl ?_ | refine TL.runG rfl rfl (pure_fieldAddr_own Ty.f28_2 rfl) rfl ?_
      first | refine TL.runG rfl rfl (pure_load1 Ty.one9 rfl) rfl ?_ | refine TL.runG rfl rfl (pure_load1_own Ty.one9 rfl (by repeat (first | exact List.Mem.head _ | apply List.Mem.tail)) (by repeat (first | exact DropR.zero _ | apply DropR.succ))) rfl ?_
      first | refine TL.runG rfl rfl (pure_load1 Ty.one9 rfl) rfl ?_ | refine TL.runG rfl rfl (pure_load1_own Ty.one9 rfl (by repeat (first | exact List.Mem.head _ | apply List.Mem.tail)) (by repeat (first | exact DropR.zero _ | apply DropR.succ))) rfl ?_
      refine TL.runG rfl rfl (pure_eql_string rfl rfl) rfl ?_; refine TL.run1 (pure_pick_true rfl rfl) rfl ?_; refine TL.run1 (pure_assign rfl) rfl ?_; refine TL.cutEnd (by repeat (first | exact Same.refl _ _ | refine Same.put rfl ?_)) rfl ?_
      first | (simp_all; done) | grind
    · try dsimp only at hg9
      refine TL.passG rfl rfl rfl rfl ?_; refine TL.passG rfl rfl rfl rfl ?_; refine TL.passG rfl rfl rfl rfl ?_; refine TL.passG rfl rfl rfl rfl ?_; refine TL.run1 (pure_pick_false rfl rfl) rfl ?_; refine TL.run1 (pure_assign rfl) rfl ?_; refine TL.cutEnd (by repeat (first | exact Same.refl _ _ | refine Same.put rfl ?_)) rfl ?_
      first | (simp_all; done) | grind
  refine TC.ret ?_
  exact ret_bool rfl rfl
set_option maxRecDepth 100000 in
theorem idxId_spec (l : List Sty) (id : Int) (hl : l.length ≤ 1000000) : Fun Try.prog 53 [.sl 6 (encSs l), .fn 54 [.at_ [.v (.int .i64 id)]]] (.v (.int .i64 (findS l id))) := by
  refine Fun.enter (n := 19) (rs := [.tmp 4]) Try.func53 rfl Try.ntmps53 Try.results53 rfl (fun w F => ?_)
  have hk := encSs_len l
  refine TC.seq ?_; refine TC.region ?_; refine TL.run1 (pure_assign rfl) rfl ?_; refine TL.nil' ?_; refine TC.seq ?_; refine TC.seq ?_; refine TC.region ?_; refine TL.run1 (pure_move rfl) rfl ?_
  first | refine TL.run1 (pure_len Ty.sl22 rfl) rfl ?_ | refine TL.run1 (pure_len_row Ty.sl22 rfl (by repeat (first | exact List.Mem.head _ | apply List.Mem.tail))) rfl ?_ | refine TL.run1 (pure_len_nil Ty.sl22 rfl) rfl ?_
  refine TL.run1 (pure_move rfl) rfl ?_; refine TL.nil' ?_; refine TC.block ?_; refine TC.loopX (X := Nat) (fun i => [(0, .sl 6 (encSs l)), (1, .fn 54 [.at_ [.v (.int .i64 id)]]), (7, .v (.int .i64 (encSs l).length)), (8, .v (.int .i64 i))]) (fun i => []) (fun i => (i ≤ l.length) ∧ ((findS l id) = fiN (fun s => decide (s.id = id)) (l.drop i) i)) (fun i => l.length - i) (0) ⟨by skip; repeat (first | exact Agree.nil | refine Agree.cons rfl ?_), by skip; repeat (first | exact List.nil_sublist _ | exact List.Sublist.refl _ | apply List.Sublist.cons_cons | apply List.Sublist.cons)⟩ ?_ ?_
  · skip
    exact ⟨Nat.zero_le _, rfl⟩
  intro i
  rintro ⟨h1, h2⟩
  show TC _ _ _ (Env.of [(0, .sl 6 (encSs l)), (1, .fn 54 [.at_ [.v (.int .i64 id)]]), (7, .v (.int .i64 (encSs l).length)), (8, .v (.int .i64 i))]) []
  refine TC.seq ?_; refine TC.region ?_; refine TL.run1 (pure_lss rfl rfl) rfl ?_; refine TL.nil' ?_; refine TC.seq ?_
  first | refine TC.condD rfl (fun hc9 => ?_) (fun hc9 => ?_) | refine TC.condN rfl (fun hc9 => ?_) (fun hc9 => ?_) | refine TC.cond rfl (fun hc9 => ?_) (fun hc9 => ?_)
  · try dsimp only at hc9
    refine TC.skip' ?_; refine TC.seq ?_; refine TC.block ?_; refine TC.seq ?_; refine TC.region ?_; refine TL.run1 (pure_move rfl) rfl ?_; refine TL.run1 (pure_assign rfl) rfl ?_; refine TL.nil' ?_; refine TC.seq ?_
    have hrow := encSs_get l i (by omega)
    refine TC.region ?_; refine TL.run1 (pure_move rfl) rfl ?_; refine TL.run1 (pure_move rfl) rfl ?_; refine TL.run1 (pure_move rfl) rfl ?_; refine TL.run1 (pure_indexAddr Ty.sl22 rfl rfl (by omega) hrow (List.cons_ne_nil _ _)) rfl ?_
    first | refine TL.run1 (pure_load Ty.agg28 rfl (.succ (.succ (.succ (.succ (.succ (.succ (.zero _)))))))) rfl ?_ | refine TL.run1 (pure_load_own Ty.agg28 rfl (by repeat (first | exact List.Mem.head _ | apply List.Mem.tail)) (by repeat (first | exact DropR.zero _ | apply DropR.succ)) (.succ (.succ (.succ (.succ (.succ (.succ (.zero _)))))))) rfl ?_
    refine TL.run1 (pure_callv rfl (Find1_spec (yAt l i) id) (.cons rfl .nil) Try.call54) rfl ?_; refine TL.nil' ?_
    first | refine TC.condD rfl (fun hc16 => ?_) (fun hc16 => ?_) | refine TC.condN rfl (fun hc16 => ?_) (fun hc16 => ?_) | refine TC.cond rfl (fun hc16 => ?_) (fun hc16 => ?_)
    · try dsimp only at hc16
      refine TC.seq ?_; refine TC.region ?_; refine TL.run1 (pure_move rfl) rfl ?_; refine TL.run1 (pure_assign rfl) rfl ?_; refine TL.nil' ?_; refine TC.ret ?_; refine block_ret ?_; refine then_ret ?_; refine loop_ret ?_; refine block_ret ?_; refine then_ret ?_
      exact ret_int rfl (by rw [h2, fiN_step _ _ _ (by omega), if_pos (by simpa using hc16)])
    · try dsimp only at hc16
      refine TC.skip ?_; refine block_normal ?_; refine then_normal ?_; refine TC.region ?_; refine TL.run1 (pure_add rfl rfl (mkI64 (by omega) (by omega))) rfl ?_; refine TL.run1 (pure_move rfl) rfl ?_; refine TL.nil ?_
      refine loop_next (i + 1) ⟨by ((try dsimp only); rw [show (((i + 1 : Nat)) : Int) = (i : Int) + 1 by omega]; repeat (first | exact Agree.nil | refine Agree.cons rfl ?_)), by repeat (first | exact List.nil_sublist _ | exact List.Sublist.refl _ | apply List.Sublist.cons_cons | apply List.Sublist.cons)⟩ ⟨by omega, by rw [h2, fiN_step _ _ _ (by omega), if_neg (by simpa using hc16)]⟩ (by omega)
  · try dsimp only at hc9
    refine TC.exit ?_; refine then_exit ?_; refine loop_exit ?_; refine block_here ?_; refine then_normal ?_; refine TC.seq ?_; refine TC.region ?_; refine TL.run1 (pure_assign rfl) rfl ?_; refine TL.nil' ?_; refine TC.ret ?_
    exact ret_int rfl (by rw [h2, fiN_end _ _ _ (by omega)])
set_option maxRecDepth 100000 in
theorem idxNm_spec (l : List Sty) (kind : Int) (name : ByteArray) (hl : l.length ≤ 1000000) : Fun Try.prog 53 [.sl 6 (encSs l), .fn 55 [.at_ [.v (.int .i64 kind)], .at_ [.v (.string name)]]] (.v (.int .i64 (findN l kind name))) := by
  refine Fun.enter (n := 19) (rs := [.tmp 4]) Try.func53 rfl Try.ntmps53 Try.results53 rfl (fun w F => ?_)
  have hk := encSs_len l
  refine TC.seq ?_; refine TC.region ?_; refine TL.run1 (pure_assign rfl) rfl ?_; refine TL.nil' ?_; refine TC.seq ?_; refine TC.seq ?_; refine TC.region ?_; refine TL.run1 (pure_move rfl) rfl ?_
  first | refine TL.run1 (pure_len Ty.sl22 rfl) rfl ?_ | refine TL.run1 (pure_len_row Ty.sl22 rfl (by repeat (first | exact List.Mem.head _ | apply List.Mem.tail))) rfl ?_ | refine TL.run1 (pure_len_nil Ty.sl22 rfl) rfl ?_
  refine TL.run1 (pure_move rfl) rfl ?_; refine TL.nil' ?_; refine TC.block ?_; refine TC.loopX (X := Nat) (fun i => [(0, .sl 6 (encSs l)), (1, .fn 55 [.at_ [.v (.int .i64 kind)], .at_ [.v (.string name)]]), (7, .v (.int .i64 (encSs l).length)), (8, .v (.int .i64 i))]) (fun i => []) (fun i => (i ≤ l.length) ∧ ((findN l kind name) = fiN (fun s => decide (s.kind = kind ∧ s.name = name)) (l.drop i) i)) (fun i => l.length - i) (0) ⟨by skip; repeat (first | exact Agree.nil | refine Agree.cons rfl ?_), by skip; repeat (first | exact List.nil_sublist _ | exact List.Sublist.refl _ | apply List.Sublist.cons_cons | apply List.Sublist.cons)⟩ ?_ ?_
  · skip
    exact ⟨Nat.zero_le _, rfl⟩
  intro i
  rintro ⟨h1, h2⟩
  show TC _ _ _ (Env.of [(0, .sl 6 (encSs l)), (1, .fn 55 [.at_ [.v (.int .i64 kind)], .at_ [.v (.string name)]]), (7, .v (.int .i64 (encSs l).length)), (8, .v (.int .i64 i))]) []
  refine TC.seq ?_; refine TC.region ?_; refine TL.run1 (pure_lss rfl rfl) rfl ?_; refine TL.nil' ?_; refine TC.seq ?_
  first | refine TC.condD rfl (fun hc9 => ?_) (fun hc9 => ?_) | refine TC.condN rfl (fun hc9 => ?_) (fun hc9 => ?_) | refine TC.cond rfl (fun hc9 => ?_) (fun hc9 => ?_)
  · try dsimp only at hc9
    refine TC.skip' ?_; refine TC.seq ?_; refine TC.block ?_; refine TC.seq ?_; refine TC.region ?_; refine TL.run1 (pure_move rfl) rfl ?_; refine TL.run1 (pure_assign rfl) rfl ?_; refine TL.nil' ?_; refine TC.seq ?_
    have hrow := encSs_get l i (by omega)
    refine TC.region ?_; refine TL.run1 (pure_move rfl) rfl ?_; refine TL.run1 (pure_move rfl) rfl ?_; refine TL.run1 (pure_move rfl) rfl ?_; refine TL.run1 (pure_indexAddr Ty.sl22 rfl rfl (by omega) hrow (List.cons_ne_nil _ _)) rfl ?_
    first | refine TL.run1 (pure_load Ty.agg28 rfl (.succ (.succ (.succ (.succ (.succ (.succ (.zero _)))))))) rfl ?_ | refine TL.run1 (pure_load_own Ty.agg28 rfl (by repeat (first | exact List.Mem.head _ | apply List.Mem.tail)) (by repeat (first | exact DropR.zero _ | apply DropR.succ)) (.succ (.succ (.succ (.succ (.succ (.succ (.zero _)))))))) rfl ?_
    refine TL.run1 (pure_callv rfl (FindName1_spec (yAt l i) kind name) (.cons rfl .nil) Try.call55) rfl ?_; refine TL.nil' ?_
    first | refine TC.condD rfl (fun hc16 => ?_) (fun hc16 => ?_) | refine TC.condN rfl (fun hc16 => ?_) (fun hc16 => ?_) | refine TC.cond rfl (fun hc16 => ?_) (fun hc16 => ?_)
    · try dsimp only at hc16
      refine TC.seq ?_; refine TC.region ?_; refine TL.run1 (pure_move rfl) rfl ?_; refine TL.run1 (pure_assign rfl) rfl ?_; refine TL.nil' ?_; refine TC.ret ?_; refine block_ret ?_; refine then_ret ?_; refine loop_ret ?_; refine block_ret ?_; refine then_ret ?_
      exact ret_int rfl (by rw [h2, fiN_step _ _ _ (by omega), if_pos (by simpa using hc16)])
    · try dsimp only at hc16
      refine TC.skip ?_; refine block_normal ?_; refine then_normal ?_; refine TC.region ?_; refine TL.run1 (pure_add rfl rfl (mkI64 (by omega) (by omega))) rfl ?_; refine TL.run1 (pure_move rfl) rfl ?_; refine TL.nil ?_
      refine loop_next (i + 1) ⟨by ((try dsimp only); rw [show (((i + 1 : Nat)) : Int) = (i : Int) + 1 by omega]; repeat (first | exact Agree.nil | refine Agree.cons rfl ?_)), by repeat (first | exact List.nil_sublist _ | exact List.Sublist.refl _ | apply List.Sublist.cons_cons | apply List.Sublist.cons)⟩ ⟨by omega, by rw [h2, fiN_step _ _ _ (by omega), if_neg (by simpa using hc16)]⟩ (by omega)
  · try dsimp only at hc9
    refine TC.exit ?_; refine then_exit ?_; refine loop_exit ?_; refine block_here ?_; refine then_normal ?_; refine TC.seq ?_; refine TC.region ?_; refine TL.run1 (pure_assign rfl) rfl ?_; refine TL.nil' ?_; refine TC.ret ?_
    exact ret_int rfl (by rw [h2, fiN_end _ _ _ (by omega)])
set_option maxRecDepth 100000 in
theorem SFind_spec (l : List Sty) (id : Int) (hl : l.length ≤ 1000000) : Fun Try.prog 24 [.sl 6 (encSs l), .v (.int .i64 id)] (.tup [.v (.int .i64 (max (findS l id) 0)), .v (.bool (decide (findS l id ≥ 0)))]) := by
  refine Fun.enter (n := 14) (rs := [.tmp 4, .tmp 5]) Try.func24 rfl Try.ntmps24 Try.results24 rfl (fun w F => ?_)
  refine TC.seq ?_; refine TC.region ?_
  refine TL.box rfl (.one rfl) rfl (fun g3 => ?_)
  refine TL.run1 (pure_assign rfl) rfl ?_; refine TL.run1 (pure_assign rfl) rfl ?_; refine TL.nil' ?_; refine TC.seq ?_; refine TC.frz 3 [] (List.nil_sublist _) rfl (.boxS (gone_nil (by repeat (first | exact List.Mem.head _ | apply List.Mem.tail))) (List.cons_ne_nil _ _)) ?_; refine TC.region ?_; refine TL.run1 (pure_move rfl) rfl ?_; refine TL.run1 (pure_makeFunc (.cons rfl .nil)) rfl ?_; refine TL.run1 (pure_call (idxId_spec l id hl) (.cons rfl (.cons rfl .nil)) Try.call53) rfl ?_; refine TL.run1 (pure_assign rfl) rfl ?_; refine TL.nil' ?_; refine TC.seq ?_; refine TC.region ?_; refine TL.run1 (pure_move rfl) rfl ?_; refine TL.run1 (pure_max rfl rfl) rfl ?_; refine TL.run1 (pure_move rfl) rfl ?_; refine TL.run1 (pure_geq rfl rfl) rfl ?_; refine TL.run1 (pure_assign rfl) rfl ?_; refine TL.run1 (pure_assign rfl) rfl ?_; refine TL.nil' ?_; refine TC.ret ?_
  exact ret2 (.inl rfl) rfl rfl rfl
set_option maxRecDepth 100000 in
theorem SFindName_spec (l : List Sty) (kind : Int) (name : ByteArray) (hl : l.length ≤ 1000000) : Fun Try.prog 25 [.sl 6 (encSs l), .v (.int .i64 kind), .v (.string name)] (.tup [.v (.int .i64 (max (findN l kind name) 0)), .v (.bool (decide (findN l kind name ≥ 0)))]) := by
  refine Fun.enter (n := 16) (rs := [.tmp 6, .tmp 7]) Try.func25 rfl Try.ntmps25 Try.results25 rfl (fun w F => ?_)
  refine TC.seq ?_; refine TC.region ?_
  refine TL.box rfl (.one rfl) rfl (fun g4 => ?_)
  refine TL.box rfl (.one rfl) rfl (fun g5 => ?_)
  refine TL.run1 (pure_assign rfl) rfl ?_; refine TL.run1 (pure_assign rfl) rfl ?_; refine TL.nil' ?_; refine TC.seq ?_; refine TC.frz2 4 5 rfl rfl (.boxS (gone_nil (by repeat (first | exact List.Mem.head _ | apply List.Mem.tail))) (List.cons_ne_nil _ _)) (.boxS (gone_nil (by repeat (first | exact List.Mem.head _ | apply List.Mem.tail))) (List.cons_ne_nil _ _)) ?_; refine TC.region ?_; refine TL.run1 (pure_move rfl) rfl ?_; refine TL.run1 (pure_makeFunc (.cons rfl (.cons rfl .nil))) rfl ?_; refine TL.run1 (pure_call (idxNm_spec l kind name hl) (.cons rfl (.cons rfl .nil)) Try.call53) rfl ?_; refine TL.run1 (pure_assign rfl) rfl ?_; refine TL.nil' ?_; refine TC.seq ?_; refine TC.region ?_; refine TL.run1 (pure_move rfl) rfl ?_; refine TL.run1 (pure_max rfl rfl) rfl ?_; refine TL.run1 (pure_move rfl) rfl ?_; refine TL.run1 (pure_geq rfl rfl) rfl ?_; refine TL.run1 (pure_assign rfl) rfl ?_; refine TL.run1 (pure_assign rfl) rfl ?_; refine TL.nil' ?_; refine TC.ret ?_
  exact ret2 (.inl rfl) rfl rfl rfl
end Go.Ob
set_option linter.unusedVariables false
set_option linter.unusedSimpArgs false
namespace Go.Ob
open Go.Proofs

theorem hasP_drop (ps : List (Int × Int)) (i : Nat) (h : i < ps.length) (key : Int) : hasP (ps.drop i) key = (decide ((pAt ps i).1 = key) || hasP (ps.drop (i + 1)) key) := by
  have e : ps.drop i = pAt ps i :: ps.drop (i + 1) := by
    rw [List.drop_eq_getElem_cons h]; unfold pAt; simp [h]
  rw [e]; simp [hasP, Bool.beq_eq_decide_eq]
theorem getP_dropN (ps : List (Int × Int)) (i : Nat) (h : i < ps.length) (key d : Int) : getP (ps.drop i) key d = if (pAt ps i).1 = key then (pAt ps i).2 else getP (ps.drop (i + 1)) key d := by
  have := getP_drop ps (i : Int) (by omega) (by omega) key d
  rwa [Int.toNat_natCast, show ((i : Int) + 1).toNat = i + 1 by omega] at this
theorem encP_getN (ps : List (Int × Int)) (i : Nat) (h : i < ps.length) : (encP ps)[((i : Nat) : Int).toNat]? = some [.v (.int .i64 (pAt ps i).1), .v (.int .i64 (pAt ps i).2)] := encP_get ps i (by omega) (by omega)
theorem props_ext {a b : List (Int × Int)} (hl : a.length = b.length) (h : ∀ i : Nat, i < a.length → pAt a i = pAt b i) : a = b := by
  apply List.ext_getElem hl
  intro i h1 h2
  have := h i h1
  unfold pAt at this
  rw [Int.toNat_natCast] at this
  simpa [h1, h2] using this
def chTo (l : List Sty) (id : Int) : Nat → List Int
  | 0 => []
  | n + 1 => chTo l id n ++ (if (yAt l n).base = id then [(yAt l n).id] else [])
theorem chTo_len (l : List Sty) (id : Int) : ∀ n, (chTo l id n).length ≤ n
  | 0 => Nat.le_refl _
  | n + 1 => by
    have := chTo_len l id n
    rw [chTo, List.length_append]
    split
    · simp only [List.length_cons, List.length_nil]; omega
    · simp only [List.length_nil]; omega
set_option maxRecDepth 100000 in
theorem is_spec (l : List Sty) (kind id : Int) (hl : l.length ≤ 1000000) : Fun Try.prog 45 [.sl 6 (encSs l), .v (.int .i64 kind), .v (.int .i64 id)] (.v (.bool (decide (isP l kind id)))) := by
  refine Fun.enter (n := 25) (rs := [.tmp 6]) Try.func45 rfl Try.ntmps45 Try.results45 rfl (fun w F => ?_)
  have hfr := findS_range l id
  have hk := encSs_len l
  refine TC.seq ?_; refine TC.region ?_; refine TL.run1 (pure_assign rfl) rfl ?_; refine TL.nil' ?_; refine TC.seq ?_; refine TC.region ?_; refine TL.run1 (pure_move rfl) rfl ?_; refine TL.run1 (pure_move rfl) rfl ?_; refine TL.run1 (pure_call (SFind_spec l id hl) (.cons rfl (.cons rfl .nil)) Try.call24) rfl ?_; refine TL.run1 (pure_move rfl) rfl ?_; refine TL.run1 (pure_extract rfl rfl) rfl ?_; refine TL.run1 (pure_extract rfl rfl) rfl ?_; refine TL.run1 (pure_assign rfl) rfl ?_; refine TL.run1 (pure_assign rfl) rfl ?_; refine TL.nil' ?_; refine TC.regionCut [15, 16, 17, 18, 19, 20, 21, 22, 23, 24, 6] 6 (isP l kind id) ?_ ?_
  · skip
    refine TL.run1 (pure_move rfl) rfl ?_; refine TL.run1 (pure_move rfl) rfl ?_
    first | refine TL.splitP 16 rfl (fun hg16 => ?_) (fun hg16 => ?_) | refine TL.split 16 rfl (fun hg16 => ?_) (fun hg16 => ?_)
    · try dsimp only at hg16
      have hf0 : 0 ≤ findS l id := by (have h := hg16; first | omega | (simp only [decide_eq_true_eq] at h; omega))
      have hrow := encSs_get l (findS l id).toNat (by omega)
      have hmx : max (findS l id) 0 = findS l id := by omega
      rw [show (((findS l id).toNat : Nat) : Int) = findS l id by omega, ← hmx] at hrow
      refine TL.runG rfl rfl (pure_move rfl) rfl ?_; refine TL.runG rfl rfl (pure_move rfl) rfl ?_; refine TL.runG rfl rfl (pure_indexAddr Ty.sl22 rfl rfl (by omega) hrow (List.cons_ne_nil _ _)) rfl ?_
      first | refine TL.runG rfl rfl (pure_fieldAddr Ty.f28_1 rfl (.succ (.zero _)) (List.cons_ne_nil _ _)) rfl ?_ | refine TL.runG rfl rfl (pure_fieldAddr_own Ty.f28_1 rfl) rfl ?_
      first | refine TL.runG rfl rfl (pure_load1 Ty.one3 rfl) rfl ?_ | refine TL.runG rfl rfl (pure_load1_own Ty.one3 rfl (by repeat (first | exact List.Mem.head _ | apply List.Mem.tail)) (by repeat (first | exact DropR.zero _ | apply DropR.succ))) rfl ?_
      refine TL.runG rfl rfl (pure_move rfl) rfl ?_; refine TL.runG rfl rfl (pure_eql rfl rfl) rfl ?_; refine TL.run1 (pure_pick_true rfl rfl) rfl ?_; refine TL.run1 (pure_assign rfl) rfl ?_; refine TL.cutEnd (by repeat (first | exact Same.refl _ _ | refine Same.put rfl ?_)) rfl ?_
      first | (unfold isP; simp_all; done) | (unfold isP; simp_all; omega) | (unfold isP; grind)
    · try dsimp only at hg16
      refine TL.passG rfl rfl rfl rfl ?_; refine TL.passG rfl rfl rfl rfl ?_; refine TL.passG rfl rfl rfl rfl ?_; refine TL.passG rfl rfl rfl rfl ?_; refine TL.passG rfl rfl rfl rfl ?_; refine TL.passG rfl rfl rfl rfl ?_; refine TL.passG rfl rfl rfl rfl ?_; refine TL.run1 (pure_pick_false rfl rfl) rfl ?_; refine TL.run1 (pure_assign rfl) rfl ?_; refine TL.cutEnd (by repeat (first | exact Same.refl _ _ | refine Same.put rfl ?_)) rfl ?_
      first | (unfold isP; simp_all; done) | (unfold isP; simp_all; omega) | (unfold isP; grind)
  refine TC.ret ?_
  exact ret_bool rfl rfl
set_option maxRecDepth 100000 in
theorem RIs_spec (l : List Sty) (kind id : Int) (hl : l.length ≤ 1000000) : Fun Try.prog 48 [.sl 6 (encSs l), .v (.int .i64 kind), .v (.int .i64 id)] (.v (.bool (decide (isP l kind id)))) := by
  refine Fun.enter (n := 22) (rs := [.tmp 6]) Try.func48 rfl Try.ntmps48 Try.results48 rfl (fun w F => ?_)
  have hfr := findS_range l id
  have hk := encSs_len l
  refine TC.seq ?_; refine TC.region ?_; refine TL.run1 (pure_assign rfl) rfl ?_; refine TL.nil' ?_; refine TC.seq ?_; refine TC.region ?_; refine TL.run1 (pure_move rfl) rfl ?_; refine TL.run1 (pure_move rfl) rfl ?_; refine TL.run1 (pure_call (RFind_spec l id hl) (.cons rfl (.cons rfl .nil)) Try.call26) rfl ?_; refine TL.run1 (pure_assign rfl) rfl ?_; refine TL.nil' ?_; refine TC.regionCut [11, 12, 13, 14, 15, 16, 17, 18, 19, 20, 21, 6] 6 (isP l kind id) ?_ ?_
  · skip
    refine TL.run1 (pure_move rfl) rfl ?_; refine TL.run1 (pure_geq rfl rfl) rfl ?_; refine TL.run1 (pure_move rfl) rfl ?_
    first | refine TL.splitP 13 rfl (fun hg13 => ?_) (fun hg13 => ?_) | refine TL.split 13 rfl (fun hg13 => ?_) (fun hg13 => ?_)
    · try dsimp only at hg13
      have hf0 : 0 ≤ findS l id := by (have h := hg13; first | omega | (simp only [decide_eq_true_eq] at h; omega))
      have hrow := encSs_get l (findS l id).toNat (by omega)
      rw [show (((findS l id).toNat : Nat) : Int) = findS l id by omega] at hrow
      refine TL.runG rfl rfl (pure_move rfl) rfl ?_; refine TL.runG rfl rfl (pure_move rfl) rfl ?_; refine TL.runG rfl rfl (pure_indexAddr Ty.sl22 rfl rfl (by omega) hrow (List.cons_ne_nil _ _)) rfl ?_
      first | refine TL.runG rfl rfl (pure_fieldAddr Ty.f28_1 rfl (.succ (.zero _)) (List.cons_ne_nil _ _)) rfl ?_ | refine TL.runG rfl rfl (pure_fieldAddr_own Ty.f28_1 rfl) rfl ?_
      first | refine TL.runG rfl rfl (pure_load1 Ty.one3 rfl) rfl ?_ | refine TL.runG rfl rfl (pure_load1_own Ty.one3 rfl (by repeat (first | exact List.Mem.head _ | apply List.Mem.tail)) (by repeat (first | exact DropR.zero _ | apply DropR.succ))) rfl ?_
      refine TL.runG rfl rfl (pure_move rfl) rfl ?_; refine TL.runG rfl rfl (pure_eql rfl rfl) rfl ?_; refine TL.run1 (pure_pick_true rfl rfl) rfl ?_; refine TL.run1 (pure_assign rfl) rfl ?_; refine TL.cutEnd (by repeat (first | exact Same.refl _ _ | refine Same.put rfl ?_)) rfl ?_
      first | (unfold isP; simp_all; done) | (unfold isP; simp_all; omega) | (unfold isP; grind)
    · try dsimp only at hg13
      refine TL.passG rfl rfl rfl rfl ?_; refine TL.passG rfl rfl rfl rfl ?_; refine TL.passG rfl rfl rfl rfl ?_; refine TL.passG rfl rfl rfl rfl ?_; refine TL.passG rfl rfl rfl rfl ?_; refine TL.passG rfl rfl rfl rfl ?_; refine TL.passG rfl rfl rfl rfl ?_; refine TL.run1 (pure_pick_false rfl rfl) rfl ?_; refine TL.run1 (pure_assign rfl) rfl ?_; refine TL.cutEnd (by repeat (first | exact Same.refl _ _ | refine Same.put rfl ?_)) rfl ?_
      first | (unfold isP; simp_all; done) | (unfold isP; simp_all; omega) | (unfold isP; grind)
  refine TC.ret ?_
  exact ret_bool rfl rfl
set_option maxRecDepth 100000 in
theorem Children_spec (l : List Sty) (id : Int) (hl : l.length ≤ 1000000) : Fun Try.prog 28 [.sl 6 (encSs l), .v (.int .i64 id)] (.sl 1 (encI (chTo l id l.length))) := by
  refine Fun.enterF (n := 25) (rs := [.tmp 4]) Try.func28 rfl Try.ntmps28 Try.results28 rfl (fun w F => ?_)
  have hk := encSs_len l
  refine TC.seq ?_; refine TC.region ?_; refine TL.run1 (pure_assign rfl) rfl ?_; refine TL.nil' ?_; refine TC.seq ?_; refine TC.region ?_; refine TL.run1 (pure_assign rfl) rfl ?_; refine TL.nil' ?_; refine TC.seq ?_; refine TC.seq ?_; refine TC.nilrow 3 1 ?_; refine TC.region ?_; refine TL.run1 (pure_move rfl) rfl ?_
  first | refine TL.run1 (pure_len Ty.sl22 rfl) rfl ?_ | refine TL.run1 (pure_len_row Ty.sl22 rfl (by repeat (first | exact List.Mem.head _ | apply List.Mem.tail))) rfl ?_ | refine TL.run1 (pure_len_nil Ty.sl22 rfl) rfl ?_
  refine TL.run1 (pure_move rfl) rfl ?_; refine TL.nil' ?_; refine TC.block ?_; refine TC.loopX (X := Nat × Value) (fun (i, v) => [(1, .v (.int .i64 id)), (5, .v v), (8, .sl 6 (encSs l)), (9, .v (.int .i64 (encSs l).length)), (10, .v (.int .i64 i))]) (fun (i, v) => [.row v 3 1 (encI (chTo l id i))]) (fun (i, v) => (i ≤ l.length)) (fun (i, v) => l.length - i) (0, .slice none 0 0) ⟨by skip; repeat (first | exact Agree.nil | refine Agree.cons rfl ?_), by skip; repeat (first | exact List.nil_sublist _ | exact List.Sublist.refl _ | apply List.Sublist.cons_cons | apply List.Sublist.cons)⟩ ?_ ?_
  · skip
    exact Nat.zero_le _
  rintro ⟨i, v⟩
  intro h1
  show TC _ _ _ (Env.of [(1, .v (.int .i64 id)), (5, .v v), (8, .sl 6 (encSs l)), (9, .v (.int .i64 (encSs l).length)), (10, .v (.int .i64 i))]) [.row v 3 1 (encI (chTo l id i))]
  refine TC.seq ?_; refine TC.region ?_; refine TL.run1 (pure_lss rfl rfl) rfl ?_; refine TL.nil' ?_; refine TC.seq ?_
  first | refine TC.condD rfl (fun hc11 => ?_) (fun hc11 => ?_) | refine TC.condN rfl (fun hc11 => ?_) (fun hc11 => ?_) | refine TC.cond rfl (fun hc11 => ?_) (fun hc11 => ?_)
  · try dsimp only at hc11
    refine TC.skip' ?_; refine TC.seq ?_; refine TC.block ?_; refine TC.seq ?_
    have hil : i < l.length := by omega
    have hrow := encSs_get l i hil
    have hcl := encI_len (chTo l id i)
    have hcn := chTo_len l id i
    refine TC.region ?_; refine TL.run1 (pure_indexAddr Ty.sl22 rfl rfl (by omega) hrow (List.cons_ne_nil _ _)) rfl ?_
    first | refine TL.run1 (pure_load Ty.agg28 rfl (.succ (.succ (.succ (.succ (.succ (.succ (.zero _)))))))) rfl ?_ | refine TL.run1 (pure_load_own Ty.agg28 rfl (by repeat (first | exact List.Mem.head _ | apply List.Mem.tail)) (by repeat (first | exact DropR.zero _ | apply DropR.succ)) (.succ (.succ (.succ (.succ (.succ (.succ (.zero _)))))))) rfl ?_
    refine TL.alloc Ty.zero28 rfl (fun g7 => ?_)
    refine TL.store rfl rfl (.agg _) Try.sizeOf28 rfl (by repeat (first | exact UpdR.here _ | apply UpdR.there)) (by repeat (first | exact PutR.nil _ | apply PutR.here | apply PutR.skip)) ?_; refine TL.nil' ?_; refine TC.seq ?_; refine TC.region ?_
    first | refine TL.run1 (pure_fieldAddr Ty.f28_3 rfl (.succ (.succ (.succ (.zero _)))) (List.cons_ne_nil _ _)) rfl ?_ | refine TL.run1 (pure_fieldAddr_own Ty.f28_3 rfl) rfl ?_
    first | refine TL.run1 (pure_load1 Ty.one3 rfl) rfl ?_ | refine TL.run1 (pure_load1_own Ty.one3 rfl (by repeat (first | exact List.Mem.head _ | apply List.Mem.tail)) (by repeat (first | exact DropR.zero _ | apply DropR.succ))) rfl ?_
    refine TL.run1 (pure_move rfl) rfl ?_; refine TL.run1 (pure_eql rfl rfl) rfl ?_; refine TL.nil' ?_
    first | refine TC.condD rfl (fun hc17 => ?_) (fun hc17 => ?_) | refine TC.condN rfl (fun hc17 => ?_) (fun hc17 => ?_) | refine TC.cond rfl (fun hc17 => ?_) (fun hc17 => ?_)
    · try dsimp only at hc17
      refine TC.region ?_; refine TL.run1 (pure_move rfl) rfl ?_
      first | refine TL.run1 (pure_fieldAddr Ty.f28_0 rfl (.zero _) (List.cons_ne_nil _ _)) rfl ?_ | refine TL.run1 (pure_fieldAddr_own Ty.f28_0 rfl) rfl ?_
      first | refine TL.run1 (pure_load1 Ty.one3 rfl) rfl ?_ | refine TL.run1 (pure_load1_own Ty.one3 rfl (by repeat (first | exact List.Mem.head _ | apply List.Mem.tail)) (by repeat (first | exact DropR.zero _ | apply DropR.succ))) rfl ?_
      refine TL.run1 (pure_buildSlice (xs := [.tmp 20]) Ty.app50 (by decide) rfl rfl (.cons rfl (.one rfl) rfl .nil)) rfl ?_
      refine TL.append Ty.app50 rfl rfl (by intro _; repeat (first | exact UpdR.here _ | apply UpdR.there)) (by simp only [List.length_append, List.length_cons, List.length_nil]; omega) (by simp only [List.length_append, List.length_cons, List.length_nil]; omega) rfl (fun v22 hv22 => ?_)
      refine TL.run1 (pure_assign rfl) rfl ?_; refine TL.nil ?_; refine block_normal ?_; refine then_normal ?_; refine TC.region ?_; refine TL.run1 (pure_add rfl rfl (mkI64 (by omega) (by omega))) rfl ?_; refine TL.run1 (pure_move rfl) rfl ?_; refine TL.nil ?_
      have hst : encI (chTo l id (i + 1)) = encI (chTo l id i) ++ [[.v (.int .i64 (yAt l i).id)]] := by rw [chTo, if_pos hc17, encI_snoc]
      refine loop_next (i + 1, v22) ⟨by ((try dsimp only); rw [show (((i + 1 : Nat)) : Int) = (i : Int) + 1 by omega]; repeat (first | exact Agree.nil | refine Agree.cons rfl ?_)), by (try dsimp only); rw [hst]; repeat (first | exact List.nil_sublist _ | exact List.Sublist.refl _ | apply List.Sublist.cons_cons | apply List.Sublist.cons)⟩ (show i + 1 ≤ _ by omega) (by (try dsimp only); omega)
    · try dsimp only at hc17
      refine TC.skip ?_; refine block_normal ?_; refine then_normal ?_; refine TC.region ?_; refine TL.run1 (pure_add rfl rfl (mkI64 (by omega) (by omega))) rfl ?_; refine TL.run1 (pure_move rfl) rfl ?_; refine TL.nil ?_
      have hst : encI (chTo l id (i + 1)) = encI (chTo l id i) := by rw [chTo, if_neg hc17, List.append_nil]
      refine loop_next (i + 1, v) ⟨by ((try dsimp only); rw [show (((i + 1 : Nat)) : Int) = (i : Int) + 1 by omega]; repeat (first | exact Agree.nil | refine Agree.cons rfl ?_)), by (try dsimp only); rw [hst]; repeat (first | exact List.nil_sublist _ | exact List.Sublist.refl _ | apply List.Sublist.cons_cons | apply List.Sublist.cons)⟩ (show i + 1 ≤ _ by omega) (by (try dsimp only); omega)
  · try dsimp only at hc11
    refine TC.exit ?_; refine then_exit ?_; refine loop_exit ?_; refine block_here ?_; refine then_normal ?_; refine TC.seq ?_; refine TC.region ?_; refine TL.run1 (pure_move rfl) rfl ?_; refine TL.run1 (pure_assign rfl) rfl ?_; refine TL.nil' ?_; refine TC.ret ?_
    have hi : i = l.length := by omega
    subst hi
    exact retF_row rfl (by repeat (first | exact List.Mem.head _ | apply List.Mem.tail)) (by decide) (encI_each _) rfl
set_option maxRecDepth 100000 in
theorem R8Get_spec (ps : List (Int × Int)) (key : Int) (hl : ps.length ≤ 1000000) : Fun Try.prog 20 [.sl 2 (encP ps), .v (.int .i64 key)] (.tup [.v (.int .i64 (getP ps key 0)), .v (.bool (hasP ps key))]) := by
  refine Fun.enter (n := 25) (rs := [.tmp 4, .tmp 5]) Try.func20 rfl Try.ntmps20 Try.results20 rfl (fun w F => ?_)
  have hk := encP_len ps
  refine TC.seq ?_; refine TC.region ?_; refine TL.run1 (pure_assign rfl) rfl ?_; refine TL.run1 (pure_assign rfl) rfl ?_; refine TL.nil' ?_; refine TC.seq ?_; refine TC.seq ?_; refine TC.region ?_; refine TL.run1 (pure_assign rfl) rfl ?_; refine TL.nil' ?_; refine TC.block ?_; refine TC.loopX (X := Nat) (fun i => [(0, .sl 2 (encP ps)), (1, .v (.int .i64 key)), (6, .v (.int .i64 i))]) (fun i => []) (fun i => (i ≤ ps.length) ∧ (getP ps key 0 = getP (ps.drop i) key 0) ∧ (hasP ps key = hasP (ps.drop i) key)) (fun i => ps.length - i) (0) ⟨by skip; repeat (first | exact Agree.nil | refine Agree.cons rfl ?_), by skip; repeat (first | exact List.nil_sublist _ | exact List.Sublist.refl _ | apply List.Sublist.cons_cons | apply List.Sublist.cons)⟩ ?_ ?_
  · skip
    exact ⟨Nat.zero_le _, rfl, rfl⟩
  intro i
  rintro ⟨h1, h2, h3⟩
  show TC _ _ _ (Env.of [(0, .sl 2 (encP ps)), (1, .v (.int .i64 key)), (6, .v (.int .i64 i))]) []
  refine TC.seq ?_; refine TC.seq ?_; refine TC.region ?_; refine TL.run1 (pure_move rfl) rfl ?_; refine TL.run1 (pure_move rfl) rfl ?_
  first | refine TL.run1 (pure_len Ty.sl26 rfl) rfl ?_ | refine TL.run1 (pure_len_row Ty.sl26 rfl (by repeat (first | exact List.Mem.head _ | apply List.Mem.tail))) rfl ?_ | refine TL.run1 (pure_len_nil Ty.sl26 rfl) rfl ?_
  refine TL.run1 (pure_lss rfl rfl) rfl ?_; refine TL.nil' ?_
  first | refine TC.condD rfl (fun hc10 => ?_) (fun hc10 => ?_) | refine TC.condN rfl (fun hc10 => ?_) (fun hc10 => ?_) | refine TC.cond rfl (fun hc10 => ?_) (fun hc10 => ?_)
  · try dsimp only at hc10
    refine TC.skip' ?_; refine TC.seq ?_; refine TC.block ?_; refine TC.seq ?_
    have hil : i < ps.length := by omega
    have hrow := encP_getN ps i hil
    refine TC.region ?_; refine TL.run1 (pure_move rfl) rfl ?_; refine TL.run1 (pure_move rfl) rfl ?_; refine TL.run1 (pure_indexAddr Ty.sl26 rfl rfl (by omega) hrow (List.cons_ne_nil _ _)) rfl ?_
    first | refine TL.run1 (pure_fieldAddr Ty.f38_0 rfl (.zero _) (List.cons_ne_nil _ _)) rfl ?_ | refine TL.run1 (pure_fieldAddr_own Ty.f38_0 rfl) rfl ?_
    first | refine TL.run1 (pure_load1 Ty.one3 rfl) rfl ?_ | refine TL.run1 (pure_load1_own Ty.one3 rfl (by repeat (first | exact List.Mem.head _ | apply List.Mem.tail)) (by repeat (first | exact DropR.zero _ | apply DropR.succ))) rfl ?_
    refine TL.run1 (pure_move rfl) rfl ?_; refine TL.run1 (pure_eql rfl rfl) rfl ?_; refine TL.nil' ?_
    first | refine TC.condD rfl (fun hc19 => ?_) (fun hc19 => ?_) | refine TC.condN rfl (fun hc19 => ?_) (fun hc19 => ?_) | refine TC.cond rfl (fun hc19 => ?_) (fun hc19 => ?_)
    · try dsimp only at hc19
      refine TC.seq ?_; refine TC.region ?_; refine TL.run1 (pure_move rfl) rfl ?_; refine TL.run1 (pure_move rfl) rfl ?_; refine TL.run1 (pure_indexAddr Ty.sl26 rfl rfl (by omega) hrow (List.cons_ne_nil _ _)) rfl ?_
      first | refine TL.run1 (pure_fieldAddr Ty.f38_1 rfl (.succ (.zero _)) (List.cons_ne_nil _ _)) rfl ?_ | refine TL.run1 (pure_fieldAddr_own Ty.f38_1 rfl) rfl ?_
      first | refine TL.run1 (pure_load1 Ty.one3 rfl) rfl ?_ | refine TL.run1 (pure_load1_own Ty.one3 rfl (by repeat (first | exact List.Mem.head _ | apply List.Mem.tail)) (by repeat (first | exact DropR.zero _ | apply DropR.succ))) rfl ?_
      refine TL.run1 (pure_assign rfl) rfl ?_; refine TL.run1 (pure_assign rfl) rfl ?_; refine TL.nil' ?_; refine TC.ret ?_; refine block_ret ?_; refine then_ret ?_; refine loop_ret ?_; refine block_ret ?_; refine then_ret ?_
      exact ret2 (.inl rfl) rfl rfl (by rw [h2, h3, getP_dropN _ _ hil, if_pos hc19, hasP_drop _ _ hil, decide_eq_true hc19, Bool.true_or])
    · try dsimp only at hc19
      refine TC.skip ?_; refine block_normal ?_; refine then_normal ?_; refine TC.region ?_; refine TL.run1 (pure_move rfl) rfl ?_; refine TL.run1 (pure_add rfl rfl (mkI64 (by omega) (by omega))) rfl ?_; refine TL.run1 (pure_assign rfl) rfl ?_; refine TL.nil ?_
      refine loop_next (i + 1) ⟨by ((try dsimp only); rw [show (((i + 1 : Nat)) : Int) = (i : Int) + 1 by omega]; repeat (first | exact Agree.nil | refine Agree.cons rfl ?_)), by repeat (first | exact List.nil_sublist _ | exact List.Sublist.refl _ | apply List.Sublist.cons_cons | apply List.Sublist.cons)⟩ ⟨by omega, by rw [h2, getP_dropN _ _ hil, if_neg hc19], by rw [h3, hasP_drop _ _ hil, decide_eq_false hc19, Bool.false_or]⟩ (by omega)
  · try dsimp only at hc10
    refine TC.exit ?_; refine then_exit ?_; refine loop_exit ?_; refine block_here ?_; refine then_normal ?_; refine TC.seq ?_; refine TC.region ?_; refine TL.run1 (pure_assign rfl) rfl ?_; refine TL.run1 (pure_assign rfl) rfl ?_; refine TL.nil' ?_; refine TC.ret ?_
    exact ret2 (.inl rfl) rfl rfl (by rw [h2, h3, List.drop_eq_nil_of_le (by omega)]; rfl)
set_option maxRecDepth 100000 in
theorem EqualProps_spec (a b : List (Int × Int)) (hl : a.length ≤ 1000000) : Fun Try.prog 23 [.sl 2 (encP a), .sl 2 (encP b)] (.v (.bool (decide (a = b)))) := by
  refine Fun.enter (n := 26) (rs := [.tmp 4]) Try.func23 rfl Try.ntmps23 Try.results23 rfl (fun w F => ?_)
  have hk := encP_len a
  have hk2 := encP_len b
  refine TC.seq ?_; refine TC.region ?_; refine TL.run1 (pure_assign rfl) rfl ?_; refine TL.nil' ?_; refine TC.seq ?_; refine TC.seq ?_; refine TC.region ?_; refine TL.run1 (pure_move rfl) rfl ?_
  first | refine TL.run1 (pure_len Ty.sl26 rfl) rfl ?_ | refine TL.run1 (pure_len_row Ty.sl26 rfl (by repeat (first | exact List.Mem.head _ | apply List.Mem.tail))) rfl ?_ | refine TL.run1 (pure_len_nil Ty.sl26 rfl) rfl ?_
  refine TL.run1 (pure_move rfl) rfl ?_
  first | refine TL.run1 (pure_len Ty.sl26 rfl) rfl ?_ | refine TL.run1 (pure_len_row Ty.sl26 rfl (by repeat (first | exact List.Mem.head _ | apply List.Mem.tail))) rfl ?_ | refine TL.run1 (pure_len_nil Ty.sl26 rfl) rfl ?_
  refine TL.run1 (pure_neq rfl rfl) rfl ?_; refine TL.nil' ?_
  first | refine TC.condD rfl (fun hc10 => ?_) (fun hc10 => ?_) | refine TC.condN rfl (fun hc10 => ?_) (fun hc10 => ?_) | refine TC.cond rfl (fun hc10 => ?_) (fun hc10 => ?_)
  · try dsimp only at hc10
    refine TC.seq ?_; refine TC.region ?_; refine TL.run1 (pure_assign rfl) rfl ?_; refine TL.nil' ?_; refine TC.ret ?_; refine then_ret ?_
    exact ret_bool rfl (decide_eq_false (fun h => by subst h; omega)).symm
  · try dsimp only at hc10
    refine TC.skip' ?_; refine TC.seq ?_; refine TC.seq ?_; refine TC.region ?_; refine TL.run1 (pure_assign rfl) rfl ?_; refine TL.nil' ?_; refine TC.block ?_; refine TC.loopX (X := Nat) (fun i => [(0, .sl 2 (encP a)), (1, .sl 2 (encP b)), (5, .v (.int .i64 i))]) (fun i => []) (fun i => (i ≤ a.length) ∧ (∀ j : Nat, j < i → pAt a j = pAt b j)) (fun i => a.length - i) (0) ⟨by skip; repeat (first | exact Agree.nil | refine Agree.cons rfl ?_), by skip; repeat (first | exact List.nil_sublist _ | exact List.Sublist.refl _ | apply List.Sublist.cons_cons | apply List.Sublist.cons)⟩ ?_ ?_
    · skip
      exact ⟨Nat.zero_le _, fun j h => by omega⟩
    intro i
    rintro ⟨h1, h2⟩
    show TC _ _ _ (Env.of [(0, .sl 2 (encP a)), (1, .sl 2 (encP b)), (5, .v (.int .i64 i))]) []
    refine TC.seq ?_; refine TC.seq ?_; refine TC.region ?_; refine TL.run1 (pure_move rfl) rfl ?_; refine TL.run1 (pure_move rfl) rfl ?_
    first | refine TL.run1 (pure_len Ty.sl26 rfl) rfl ?_ | refine TL.run1 (pure_len_row Ty.sl26 rfl (by repeat (first | exact List.Mem.head _ | apply List.Mem.tail))) rfl ?_ | refine TL.run1 (pure_len_nil Ty.sl26 rfl) rfl ?_
    refine TL.run1 (pure_lss rfl rfl) rfl ?_; refine TL.nil' ?_
    first | refine TC.condD rfl (fun hc14 => ?_) (fun hc14 => ?_) | refine TC.condN rfl (fun hc14 => ?_) (fun hc14 => ?_) | refine TC.cond rfl (fun hc14 => ?_) (fun hc14 => ?_)
    · try dsimp only at hc14
      refine TC.skip' ?_; refine TC.seq ?_; refine TC.block ?_
      have hil : i < a.length := by omega
      have hrow := encP_getN a i hil
      have hrow2 := encP_getN b i (by omega)
      refine TC.drawCut [17, 18, 19, 20, 21, 22, 23, 24, 25] 25 (¬ pAt a i = pAt b i) Ty.follows (by kernel_rfl) ?_ ?_
      · skip
        refine TD.run1 (pure_move rfl) rfl ?_; refine TD.run1 (pure_move rfl) rfl ?_; refine TD.run1 (pure_indexAddr Ty.sl26 rfl rfl (by omega) hrow (List.cons_ne_nil _ _)) rfl ?_
        first | refine TD.run1 (pure_load Ty.agg38 rfl (.succ (.succ (.zero _)))) rfl ?_ | refine TD.run1 (pure_load_own Ty.agg38 rfl (by repeat (first | exact List.Mem.head _ | apply List.Mem.tail)) (by repeat (first | exact DropR.zero _ | apply DropR.succ)) (.succ (.succ (.zero _)))) rfl ?_
        refine TD.run1 (pure_move rfl) rfl ?_; refine TD.run1 (pure_move rfl) rfl ?_; refine TD.run1 (pure_indexAddr Ty.sl26 rfl rfl (by omega) hrow2 (List.cons_ne_nil _ _)) rfl ?_
        first | refine TD.run1 (pure_load Ty.agg38 rfl (.succ (.succ (.zero _)))) rfl ?_ | refine TD.run1 (pure_load_own Ty.agg38 rfl (by repeat (first | exact List.Mem.head _ | apply List.Mem.tail)) (by repeat (first | exact DropR.zero _ | apply DropR.succ)) (.succ (.succ (.zero _)))) rfl ?_
        refine TD.run1 (pure_neq_agg Ty.eq38 rfl rfl (.cons (.cons .nil)) (.cons (.cons .nil)) rfl rfl) rfl ?_; refine TD.cutEnd (by repeat (first | exact Same.refl _ _ | refine Same.put rfl ?_)) rfl ?_
        first | (rw [Prod.ext_iff]; simp; done) | (rw [Prod.ext_iff]; simp_all; done) | grind
      first | refine TC.condD rfl (fun hc25 => ?_) (fun hc25 => ?_) | refine TC.condN rfl (fun hc25 => ?_) (fun hc25 => ?_) | refine TC.cond rfl (fun hc25 => ?_) (fun hc25 => ?_)
      · try dsimp only at hc25
        refine TC.seq ?_; refine TC.region ?_; refine TL.run1 (pure_assign rfl) rfl ?_; refine TL.nil' ?_; refine TC.ret ?_; refine block_ret ?_; refine then_ret ?_; refine loop_ret ?_; refine block_ret ?_; refine then_ret ?_
        exact ret_bool rfl (decide_eq_false (fun h => hc25 (by rw [h]))).symm
      · try dsimp only at hc25
        refine TC.skip ?_; refine block_normal ?_; refine then_normal ?_; refine TC.region ?_; refine TL.run1 (pure_move rfl) rfl ?_; refine TL.run1 (pure_add rfl rfl (mkI64 (by omega) (by omega))) rfl ?_; refine TL.run1 (pure_assign rfl) rfl ?_; refine TL.nil ?_
        have hq : pAt a i = pAt b i := Classical.not_not.1 hc25
        refine loop_next (i + 1) ⟨by ((try dsimp only); rw [show (((i + 1 : Nat)) : Int) = (i : Int) + 1 by omega]; repeat (first | exact Agree.nil | refine Agree.cons rfl ?_)), by repeat (first | exact List.nil_sublist _ | exact List.Sublist.refl _ | apply List.Sublist.cons_cons | apply List.Sublist.cons)⟩ ⟨by omega, fun j h => by rcases Nat.lt_or_eq_of_le (Nat.le_of_lt_succ h) with h | h; exact h2 j h; subst h; exact hq⟩ (by omega)
    · try dsimp only at hc14
      refine TC.exit ?_; refine then_exit ?_; refine loop_exit ?_; refine block_here ?_; refine then_normal ?_; refine TC.seq ?_; refine TC.region ?_; refine TL.run1 (pure_assign rfl) rfl ?_; refine TL.nil' ?_; refine TC.ret ?_
      exact ret_bool rfl (decide_eq_true (props_ext (by omega) (fun j h => h2 j (by omega)))).symm
end Go.Ob
set_option linter.unusedVariables false
set_option linter.unusedSimpArgs false
namespace Go.Ob
open Go.Proofs

def tK (n : Nat) : Int := (eAt tableK (n : Int)).num
def mTo (lo hi : List (Int × Int)) : Nat → List (Int × Int)
  | 0 => []
  | n + 1 => mTo lo hi n ++ (if hasP hi (tK n) = true then [(tK n, getP hi (tK n) 0)] else if hasP lo (tK n) = true then [(tK n, getP lo (tK n) 0)] else [])
theorem mTo_len (lo hi : List (Int × Int)) : ∀ n, (mTo lo hi n).length ≤ n
  | 0 => Nat.le_refl _
  | n + 1 => by
    have := mTo_len lo hi n
    rw [mTo, List.length_append]
    (repeat' split) <;> simp only [List.length_cons, List.length_nil] <;> omega
def merT (lo hi : List (Int × Int)) : List (Int × Int) := mTo lo hi tableK.length
theorem encK_getN (n : Nat) (h : n < tableK.length) : (encK tableK)[((n : Nat) : Int).toNat]? = some [.v (.int .i64 (tK n)), .v (.int .i64 (eAt tableK (n : Int)).group), .v (.int .i64 (eAt tableK (n : Int)).low), .v (.int .i64 (eAt tableK (n : Int)).high), .v (.int .i64 (eAt tableK (n : Int)).std), .v (.string (eAt tableK (n : Int)).name)] := encK_get tableK (n : Int) (by omega) (by omega)
def inG (g key : Int) : Prop := inI (keysK tableK) key = true ∧ (findK key).group = g
instance (g key : Int) : Decidable (inG g key) := by unfold inG; infer_instance
def gTo (ps : List (Int × Int)) (g : Int) : Nat → List (Int × Int)
  | 0 => []
  | n + 1 => gTo ps g n ++ (if inG g (pAt ps n).1 then [pAt ps n] else [])
theorem gTo_len (ps : List (Int × Int)) (g : Int) : ∀ n, (gTo ps g n).length ≤ n
  | 0 => Nat.le_refl _
  | n + 1 => by
    have := gTo_len ps g n
    rw [gTo, List.length_append]
    split <;> simp only [List.length_cons, List.length_nil] <;> omega
set_option maxRecDepth 100000 in
theorem R8Merge_spec (lo hi : List (Int × Int)) (hl00 : lo.length ≤ 1000000) (hh0 : hi.length ≤ 1000000) : Fun Try.prog 22 [.sl 2 (encP lo), .sl 2 (encP hi)] (.sl 2 (encP (merT lo hi))) := by
  refine Fun.enterF (n := 51) (rs := [.tmp 4]) Try.func22 rfl Try.ntmps22 Try.results22 rfl (fun w F => ?_)
  have hk := encK_len tableK
  have htl := tableK_len
  refine TC.seq ?_; refine TC.region ?_; refine TL.run1 (pure_assign rfl) rfl ?_; refine TL.nil' ?_; refine TC.seq ?_; refine TC.region ?_; refine TL.run1 (pure_assign rfl) rfl ?_; refine TL.nil' ?_; refine TC.seq ?_; refine TC.nilrow 38 2 ?_; refine TC.region ?_; refine TL.run1 (pure_call (Table_spec) .nil Try.call43) rfl ?_; refine TL.run1 (pure_assign rfl) rfl ?_; refine TL.nil' ?_; refine TC.seq ?_; refine TC.seq ?_; refine TC.region ?_; refine TL.run1 (pure_assign rfl) rfl ?_; refine TL.nil' ?_; refine TC.block ?_; refine TC.loopX (X := Nat × Value) (fun (n, v) => [(0, .sl 2 (encP lo)), (1, .sl 2 (encP hi)), (5, .v v), (6, .sl 6 (encK tableK)), (7, .v (.int .i64 n))]) (fun (n, v) => [.row v 38 2 (encP (mTo lo hi n))]) (fun (n, v) => (n ≤ tableK.length)) (fun (n, v) => tableK.length - n) (0, .slice none 0 0) ⟨by skip; repeat (first | exact Agree.nil | refine Agree.cons rfl ?_), by skip; repeat (first | exact List.nil_sublist _ | exact List.Sublist.refl _ | apply List.Sublist.cons_cons | apply List.Sublist.cons)⟩ ?_ ?_
  · skip
    exact Nat.zero_le _
  rintro ⟨n, v⟩
  intro h1
  show TC _ _ _ (Env.of [(0, .sl 2 (encP lo)), (1, .sl 2 (encP hi)), (5, .v v), (6, .sl 6 (encK tableK)), (7, .v (.int .i64 n))]) [.row v 38 2 (encP (mTo lo hi n))]
  refine TC.seq ?_; refine TC.seq ?_; refine TC.region ?_; refine TL.run1 (pure_move rfl) rfl ?_; refine TL.run1 (pure_move rfl) rfl ?_
  first | refine TL.run1 (pure_len Ty.sl68 rfl) rfl ?_ | refine TL.run1 (pure_len_row Ty.sl68 rfl (by repeat (first | exact List.Mem.head _ | apply List.Mem.tail))) rfl ?_ | refine TL.run1 (pure_len_nil Ty.sl68 rfl) rfl ?_
  refine TL.run1 (pure_lss rfl rfl) rfl ?_; refine TL.nil' ?_
  first | refine TC.condD rfl (fun hc14 => ?_) (fun hc14 => ?_) | refine TC.condN rfl (fun hc14 => ?_) (fun hc14 => ?_) | refine TC.cond rfl (fun hc14 => ?_) (fun hc14 => ?_)
  · try dsimp only at hc14
    refine TC.skip' ?_; refine TC.seq ?_; refine TC.block ?_; refine TC.seq ?_
    have hnl : n < tableK.length := by omega
    have hrow := encK_getN n hnl
    have hml := mTo_len lo hi n
    have hme := encP_len (mTo lo hi n)
    refine TC.region ?_; refine TL.run1 (pure_move rfl) rfl ?_; refine TL.run1 (pure_move rfl) rfl ?_; refine TL.run1 (pure_move rfl) rfl ?_; refine TL.run1 (pure_indexAddr Ty.sl68 rfl rfl (by omega) hrow (List.cons_ne_nil _ _)) rfl ?_
    first | refine TL.run1 (pure_fieldAddr Ty.f40_0 rfl (.zero _) (List.cons_ne_nil _ _)) rfl ?_ | refine TL.run1 (pure_fieldAddr_own Ty.f40_0 rfl) rfl ?_
    first | refine TL.run1 (pure_load1 Ty.one3 rfl) rfl ?_ | refine TL.run1 (pure_load1_own Ty.one3 rfl (by repeat (first | exact List.Mem.head _ | apply List.Mem.tail)) (by repeat (first | exact DropR.zero _ | apply DropR.succ))) rfl ?_
    refine TL.run1 (pure_call (R8Get_spec hi (tK n) hh0) (.cons rfl (.cons rfl .nil)) Try.call20) rfl ?_; refine TL.run1 (pure_move rfl) rfl ?_; refine TL.run1 (pure_extract rfl rfl) rfl ?_; refine TL.run1 (pure_extract rfl rfl) rfl ?_; refine TL.run1 (pure_assign rfl) rfl ?_; refine TL.run1 (pure_assign rfl) rfl ?_; refine TL.nil' ?_; refine TC.seq ?_; refine TC.seq ?_; refine TC.region ?_; refine TL.run1 (pure_move rfl) rfl ?_; refine TL.run1 (pure_not rfl) rfl ?_; refine TL.nil' ?_
    first | refine TC.condD rfl (fun hc28 => ?_) (fun hc28 => ?_) | refine TC.condN rfl (fun hc28 => ?_) (fun hc28 => ?_) | refine TC.cond rfl (fun hc28 => ?_) (fun hc28 => ?_)
    · try dsimp only at hc28
      have hh : hasP hi (tK n) = false := by simpa using hc28
      refine TC.region ?_; refine TL.run1 (pure_move rfl) rfl ?_; refine TL.run1 (pure_move rfl) rfl ?_; refine TL.run1 (pure_move rfl) rfl ?_; refine TL.run1 (pure_indexAddr Ty.sl68 rfl rfl (by omega) hrow (List.cons_ne_nil _ _)) rfl ?_
      first | refine TL.run1 (pure_fieldAddr Ty.f40_0 rfl (.zero _) (List.cons_ne_nil _ _)) rfl ?_ | refine TL.run1 (pure_fieldAddr_own Ty.f40_0 rfl) rfl ?_
      first | refine TL.run1 (pure_load1 Ty.one3 rfl) rfl ?_ | refine TL.run1 (pure_load1_own Ty.one3 rfl (by repeat (first | exact List.Mem.head _ | apply List.Mem.tail)) (by repeat (first | exact DropR.zero _ | apply DropR.succ))) rfl ?_
      refine TL.run1 (pure_call (R8Get_spec lo (tK n) hl00) (.cons rfl (.cons rfl .nil)) Try.call20) rfl ?_; refine TL.run1 (pure_move rfl) rfl ?_; refine TL.run1 (pure_extract rfl rfl) rfl ?_; refine TL.run1 (pure_extract rfl rfl) rfl ?_; refine TL.run1 (pure_assign rfl) rfl ?_; refine TL.run1 (pure_assign rfl) rfl ?_; refine TL.nil' ?_; refine TC.seq ?_; refine TC.region ?_; refine TL.run1 (pure_move rfl) rfl ?_; refine TL.nil' ?_
      first | refine TC.condD rfl (fun hc39 => ?_) (fun hc39 => ?_) | refine TC.condN rfl (fun hc39 => ?_) (fun hc39 => ?_) | refine TC.cond rfl (fun hc39 => ?_) (fun hc39 => ?_)
      · try dsimp only at hc39
        have hl0 : hasP lo (tK n) = true := by simpa using hc39
        refine TC.region ?_; refine TL.run1 (pure_move rfl) rfl ?_; refine TL.run1 (pure_move rfl) rfl ?_; refine TL.run1 (pure_move rfl) rfl ?_; refine TL.run1 (pure_indexAddr Ty.sl68 rfl rfl (by omega) hrow (List.cons_ne_nil _ _)) rfl ?_
        first | refine TL.run1 (pure_fieldAddr Ty.f40_0 rfl (.zero _) (List.cons_ne_nil _ _)) rfl ?_ | refine TL.run1 (pure_fieldAddr_own Ty.f40_0 rfl) rfl ?_
        first | refine TL.run1 (pure_load1 Ty.one3 rfl) rfl ?_ | refine TL.run1 (pure_load1_own Ty.one3 rfl (by repeat (first | exact List.Mem.head _ | apply List.Mem.tail)) (by repeat (first | exact DropR.zero _ | apply DropR.succ))) rfl ?_
        refine TL.run1 (pure_move rfl) rfl ?_; refine TL.run1 (pure_build Ty.pl38 Ty.zero38 (.cons rfl rfl (.one rfl) rfl (.here (.nil _)) (.cons rfl rfl (.one rfl) rfl (.skip (.here (.nil _))) (.nil _)))) rfl ?_; refine TL.run1 (pure_buildSlice (xs := [.tmp 47]) Ty.app26 (by decide) rfl rfl (.cons rfl (.agg _) rfl .nil)) rfl ?_
        refine TL.append Ty.app26 rfl rfl (by intro _; repeat (first | exact UpdR.here _ | apply UpdR.there)) (by simp only [List.length_append, List.length_cons, List.length_nil]; omega) (by simp only [List.length_append, List.length_cons, List.length_nil]; omega) rfl (fun v49 hv49 => ?_)
        refine TL.run1 (pure_assign rfl) rfl ?_; refine TL.nil ?_; refine block_normal ?_; refine then_normal ?_; refine TC.region ?_; refine TL.run1 (pure_move rfl) rfl ?_; refine TL.run1 (pure_add rfl rfl (mkI64 (by omega) (by omega))) rfl ?_; refine TL.run1 (pure_assign rfl) rfl ?_; refine TL.nil ?_
        have hst : encP (mTo lo hi (n + 1)) = encP (mTo lo hi n) ++ [[.v (.int .i64 (tK n, getP lo (tK n) 0).1), .v (.int .i64 (tK n, getP lo (tK n) 0).2)]] := by rw [mTo, if_neg (by rw [hh]; decide), if_pos hl0, encP_snoc']
        refine loop_next (n + 1, v49) ⟨by ((try dsimp only); rw [show (((n + 1 : Nat)) : Int) = (n : Int) + 1 by omega]; repeat (first | exact Agree.nil | refine Agree.cons rfl ?_)), by (try dsimp only); rw [hst]; repeat (first | exact List.nil_sublist _ | exact List.Sublist.refl _ | apply List.Sublist.cons_cons | apply List.Sublist.cons)⟩ (show n + 1 ≤ _ by omega) (by (try dsimp only); omega)
      · try dsimp only at hc39
        have hl0 : hasP lo (tK n) = false := by simpa using hc39
        refine TC.skip ?_; refine block_normal ?_; refine then_normal ?_; refine TC.region ?_; refine TL.run1 (pure_move rfl) rfl ?_; refine TL.run1 (pure_add rfl rfl (mkI64 (by omega) (by omega))) rfl ?_; refine TL.run1 (pure_assign rfl) rfl ?_; refine TL.nil ?_
        have hst : encP (mTo lo hi (n + 1)) = encP (mTo lo hi n) := by rw [mTo, if_neg (by rw [hh]; decide), if_neg (by rw [hl0]; decide), List.append_nil]
        refine loop_next (n + 1, v) ⟨by ((try dsimp only); rw [show (((n + 1 : Nat)) : Int) = (n : Int) + 1 by omega]; repeat (first | exact Agree.nil | refine Agree.cons rfl ?_)), by (try dsimp only); rw [hst]; repeat (first | exact List.nil_sublist _ | exact List.Sublist.refl _ | apply List.Sublist.cons_cons | apply List.Sublist.cons)⟩ (show n + 1 ≤ _ by omega) (by (try dsimp only); omega)
    · try dsimp only at hc28
      have hh : hasP hi (tK n) = true := by simpa using hc28
      refine TC.skip' ?_; refine TC.seq ?_; refine TC.region ?_; refine TL.run1 (pure_move rfl) rfl ?_; refine TL.nil' ?_
      first | refine TC.condD rfl (fun hc39 => ?_) (fun hc39 => ?_) | refine TC.condN rfl (fun hc39 => ?_) (fun hc39 => ?_) | refine TC.cond rfl (fun hc39 => ?_) (fun hc39 => ?_)
      · try dsimp only at hc39
        refine TC.region ?_; refine TL.run1 (pure_move rfl) rfl ?_; refine TL.run1 (pure_move rfl) rfl ?_; refine TL.run1 (pure_move rfl) rfl ?_; refine TL.run1 (pure_indexAddr Ty.sl68 rfl rfl (by omega) hrow (List.cons_ne_nil _ _)) rfl ?_
        first | refine TL.run1 (pure_fieldAddr Ty.f40_0 rfl (.zero _) (List.cons_ne_nil _ _)) rfl ?_ | refine TL.run1 (pure_fieldAddr_own Ty.f40_0 rfl) rfl ?_
        first | refine TL.run1 (pure_load1 Ty.one3 rfl) rfl ?_ | refine TL.run1 (pure_load1_own Ty.one3 rfl (by repeat (first | exact List.Mem.head _ | apply List.Mem.tail)) (by repeat (first | exact DropR.zero _ | apply DropR.succ))) rfl ?_
        refine TL.run1 (pure_move rfl) rfl ?_; refine TL.run1 (pure_build Ty.pl38 Ty.zero38 (.cons rfl rfl (.one rfl) rfl (.here (.nil _)) (.cons rfl rfl (.one rfl) rfl (.skip (.here (.nil _))) (.nil _)))) rfl ?_; refine TL.run1 (pure_buildSlice (xs := [.tmp 47]) Ty.app26 (by decide) rfl rfl (.cons rfl (.agg _) rfl .nil)) rfl ?_
        refine TL.append Ty.app26 rfl rfl (by intro _; repeat (first | exact UpdR.here _ | apply UpdR.there)) (by simp only [List.length_append, List.length_cons, List.length_nil]; omega) (by simp only [List.length_append, List.length_cons, List.length_nil]; omega) rfl (fun v49 hv49 => ?_)
        refine TL.run1 (pure_assign rfl) rfl ?_; refine TL.nil ?_; refine block_normal ?_; refine then_normal ?_; refine TC.region ?_; refine TL.run1 (pure_move rfl) rfl ?_; refine TL.run1 (pure_add rfl rfl (mkI64 (by omega) (by omega))) rfl ?_; refine TL.run1 (pure_assign rfl) rfl ?_; refine TL.nil ?_
        have hst : encP (mTo lo hi (n + 1)) = encP (mTo lo hi n) ++ [[.v (.int .i64 (tK n, getP hi (tK n) 0).1), .v (.int .i64 (tK n, getP hi (tK n) 0).2)]] := by rw [mTo, if_pos hh, encP_snoc']
        refine loop_next (n + 1, v49) ⟨by ((try dsimp only); rw [show (((n + 1 : Nat)) : Int) = (n : Int) + 1 by omega]; repeat (first | exact Agree.nil | refine Agree.cons rfl ?_)), by (try dsimp only); rw [hst]; repeat (first | exact List.nil_sublist _ | exact List.Sublist.refl _ | apply List.Sublist.cons_cons | apply List.Sublist.cons)⟩ (show n + 1 ≤ _ by omega) (by (try dsimp only); omega)
      · try dsimp only at hc39
        exact absurd hh (by simpa using hc39)
  · try dsimp only at hc14
    refine TC.exit ?_; refine then_exit ?_; refine loop_exit ?_; refine block_here ?_; refine then_normal ?_; refine TC.seq ?_; refine TC.region ?_; refine TL.run1 (pure_move rfl) rfl ?_; refine TL.run1 (pure_assign rfl) rfl ?_; refine TL.nil' ?_; refine TC.ret ?_
    have hn : n = tableK.length := by omega
    subst hn
    exact retF_row rfl (by repeat (first | exact List.Mem.head _ | apply List.Mem.tail)) (by decide) (encP_each _) rfl
set_option maxRecDepth 100000 in
theorem R8Group_spec (ps : List (Int × Int)) (g : Int) (hl : ps.length ≤ 1000000) : Fun Try.prog 57 [.sl 2 (encP ps), .v (.int .i64 g)] (.sl 2 (encP (gTo ps g ps.length))) := by
  refine Fun.enterF (n := 39) (rs := [.tmp 4]) Try.func57 rfl Try.ntmps57 Try.results57 rfl (fun w F => ?_)
  have hk := encP_len ps
  refine TC.seq ?_; refine TC.region ?_; refine TL.run1 (pure_assign rfl) rfl ?_; refine TL.nil' ?_; refine TC.seq ?_; refine TC.region ?_; refine TL.run1 (pure_assign rfl) rfl ?_; refine TL.nil' ?_; refine TC.seq ?_; refine TC.seq ?_; refine TC.nilrow 38 2 ?_; refine TC.region ?_; refine TL.run1 (pure_assign rfl) rfl ?_; refine TL.nil' ?_; refine TC.block ?_; refine TC.loopX (X := Nat × Value) (fun (n, v) => [(0, .sl 2 (encP ps)), (1, .v (.int .i64 g)), (5, .v v), (6, .v (.int .i64 n))]) (fun (n, v) => [.row v 38 2 (encP (gTo ps g n))]) (fun (n, v) => (n ≤ ps.length)) (fun (n, v) => ps.length - n) (0, .slice none 0 0) ⟨by skip; repeat (first | exact Agree.nil | refine Agree.cons rfl ?_), by skip; repeat (first | exact List.nil_sublist _ | exact List.Sublist.refl _ | apply List.Sublist.cons_cons | apply List.Sublist.cons)⟩ ?_ ?_
  · skip
    exact Nat.zero_le _
  rintro ⟨n, v⟩
  intro h1
  show TC _ _ _ (Env.of [(0, .sl 2 (encP ps)), (1, .v (.int .i64 g)), (5, .v v), (6, .v (.int .i64 n))]) [.row v 38 2 (encP (gTo ps g n))]
  refine TC.seq ?_; refine TC.seq ?_; refine TC.region ?_; refine TL.run1 (pure_move rfl) rfl ?_; refine TL.run1 (pure_move rfl) rfl ?_
  first | refine TL.run1 (pure_len Ty.sl26 rfl) rfl ?_ | refine TL.run1 (pure_len_row Ty.sl26 rfl (by repeat (first | exact List.Mem.head _ | apply List.Mem.tail))) rfl ?_ | refine TL.run1 (pure_len_nil Ty.sl26 rfl) rfl ?_
  refine TL.run1 (pure_lss rfl rfl) rfl ?_; refine TL.nil' ?_
  first | refine TC.condD rfl (fun hc12 => ?_) (fun hc12 => ?_) | refine TC.condN rfl (fun hc12 => ?_) (fun hc12 => ?_) | refine TC.cond rfl (fun hc12 => ?_) (fun hc12 => ?_)
  · try dsimp only at hc12
    refine TC.skip' ?_; refine TC.seq ?_; refine TC.block ?_; refine TC.seq ?_
    have hnl : n < ps.length := by omega
    have hrow := encP_getN ps n hnl
    have hml := gTo_len ps g n
    have hme := encP_len (gTo ps g n)
    refine TC.region ?_; refine TL.run1 (pure_move rfl) rfl ?_; refine TL.run1 (pure_move rfl) rfl ?_; refine TL.run1 (pure_indexAddr Ty.sl26 rfl rfl (by omega) hrow (List.cons_ne_nil _ _)) rfl ?_
    first | refine TL.run1 (pure_fieldAddr Ty.f38_0 rfl (.zero _) (List.cons_ne_nil _ _)) rfl ?_ | refine TL.run1 (pure_fieldAddr_own Ty.f38_0 rfl) rfl ?_
    first | refine TL.run1 (pure_load1 Ty.one3 rfl) rfl ?_ | refine TL.run1 (pure_load1_own Ty.one3 rfl (by repeat (first | exact List.Mem.head _ | apply List.Mem.tail)) (by repeat (first | exact DropR.zero _ | apply DropR.succ))) rfl ?_
    refine TL.run1 (pure_call (Of_spec (pAt ps n).1) (.cons rfl .nil) Try.call21) rfl ?_; refine TL.run1 (pure_move rfl) rfl ?_; refine TL.run1 (pure_extract rfl rfl) rfl ?_; refine TL.run1 (pure_extract rfl rfl) rfl ?_
    refine TL.alloc Ty.zero40 rfl (fun g7 => ?_)
    refine TL.store rfl rfl (.agg _) Try.sizeOf40 rfl (by repeat (first | exact UpdR.here _ | apply UpdR.there)) (by repeat (first | exact PutR.nil _ | apply PutR.here | apply PutR.skip)) ?_; refine TL.run1 (pure_assign rfl) rfl ?_; refine TL.nil' ?_; refine TC.regionCut [24, 25, 26, 27, 28, 29, 30] 30 (inG g (pAt ps n).1) ?_ ?_
    · skip
      refine TL.run1 (pure_move rfl) rfl ?_; refine TL.run1 (pure_move rfl) rfl ?_
      first | refine TL.splitP 25 rfl (fun hg25 => ?_) (fun hg25 => ?_) | refine TL.split 25 rfl (fun hg25 => ?_) (fun hg25 => ?_)
      · try dsimp only at hg25
        first | refine TL.runG rfl rfl (pure_fieldAddr Ty.f40_1 rfl (.succ (.zero _)) (List.cons_ne_nil _ _)) rfl ?_ | refine TL.runG rfl rfl (pure_fieldAddr_own Ty.f40_1 rfl) rfl ?_
        first | refine TL.runG rfl rfl (pure_load1 Ty.one3 rfl) rfl ?_ | refine TL.runG rfl rfl (pure_load1_own Ty.one3 rfl (by repeat (first | exact List.Mem.head _ | apply List.Mem.tail)) (by repeat (first | exact DropR.zero _ | apply DropR.succ))) rfl ?_
        refine TL.runG rfl rfl (pure_move rfl) rfl ?_; refine TL.runG rfl rfl (pure_eql rfl rfl) rfl ?_; refine TL.run1 (pure_pick_true rfl rfl) rfl ?_; refine TL.cutEnd (by repeat (first | exact Same.refl _ _ | refine Same.put rfl ?_)) rfl ?_
        first | (unfold inG inI; simp_all; done) | (unfold inG inI; grind)
      · try dsimp only at hg25
        refine TL.passG rfl rfl rfl rfl ?_; refine TL.passG rfl rfl rfl rfl ?_; refine TL.passG rfl rfl rfl rfl ?_; refine TL.passG rfl rfl rfl rfl ?_; refine TL.run1 (pure_pick_false rfl rfl) rfl ?_; refine TL.cutEnd (by repeat (first | exact Same.refl _ _ | refine Same.put rfl ?_)) rfl ?_
        first | (unfold inG inI; simp_all; done) | (unfold inG inI; grind)
    first | refine TC.condD rfl (fun hc30 => ?_) (fun hc30 => ?_) | refine TC.condN rfl (fun hc30 => ?_) (fun hc30 => ?_) | refine TC.cond rfl (fun hc30 => ?_) (fun hc30 => ?_)
    · try dsimp only at hc30
      refine TC.region ?_; refine TL.run1 (pure_move rfl) rfl ?_; refine TL.run1 (pure_move rfl) rfl ?_; refine TL.run1 (pure_move rfl) rfl ?_; refine TL.run1 (pure_indexAddr Ty.sl26 rfl rfl (by omega) hrow (List.cons_ne_nil _ _)) rfl ?_
      first | refine TL.run1 (pure_load Ty.agg38 rfl (.succ (.succ (.zero _)))) rfl ?_ | refine TL.run1 (pure_load_own Ty.agg38 rfl (by repeat (first | exact List.Mem.head _ | apply List.Mem.tail)) (by repeat (first | exact DropR.zero _ | apply DropR.succ)) (.succ (.succ (.zero _)))) rfl ?_
      refine TL.run1 (pure_buildSlice (xs := [.tmp 35]) Ty.app26 (by decide) rfl rfl (.cons rfl (.agg _) rfl .nil)) rfl ?_
      refine TL.append Ty.app26 rfl rfl (by intro _; repeat (first | exact UpdR.here _ | apply UpdR.there)) (by simp only [List.length_append, List.length_cons, List.length_nil]; omega) (by simp only [List.length_append, List.length_cons, List.length_nil]; omega) rfl (fun v37 hv37 => ?_)
      refine TL.run1 (pure_assign rfl) rfl ?_; refine TL.nil ?_; refine block_normal ?_; refine then_normal ?_; refine TC.region ?_; refine TL.run1 (pure_move rfl) rfl ?_; refine TL.run1 (pure_add rfl rfl (mkI64 (by omega) (by omega))) rfl ?_; refine TL.run1 (pure_assign rfl) rfl ?_; refine TL.nil ?_
      have hst : encP (gTo ps g (n + 1)) = encP (gTo ps g n) ++ [[.v (.int .i64 (pAt ps n).1), .v (.int .i64 (pAt ps n).2)]] := by rw [gTo, if_pos hc30, encP_snoc']
      refine loop_next (n + 1, v37) ⟨by ((try dsimp only); rw [show (((n + 1 : Nat)) : Int) = (n : Int) + 1 by omega]; repeat (first | exact Agree.nil | refine Agree.cons rfl ?_)), by (try dsimp only); rw [hst]; repeat (first | exact List.nil_sublist _ | exact List.Sublist.refl _ | apply List.Sublist.cons_cons | apply List.Sublist.cons)⟩ (show n + 1 ≤ _ by omega) (by (try dsimp only); omega)
    · try dsimp only at hc30
      refine TC.skip ?_; refine block_normal ?_; refine then_normal ?_; refine TC.region ?_; refine TL.run1 (pure_move rfl) rfl ?_; refine TL.run1 (pure_add rfl rfl (mkI64 (by omega) (by omega))) rfl ?_; refine TL.run1 (pure_assign rfl) rfl ?_; refine TL.nil ?_
      have hst : encP (gTo ps g (n + 1)) = encP (gTo ps g n) := by rw [gTo, if_neg hc30, List.append_nil]
      refine loop_next (n + 1, v) ⟨by ((try dsimp only); rw [show (((n + 1 : Nat)) : Int) = (n : Int) + 1 by omega]; repeat (first | exact Agree.nil | refine Agree.cons rfl ?_)), by (try dsimp only); rw [hst]; repeat (first | exact List.nil_sublist _ | exact List.Sublist.refl _ | apply List.Sublist.cons_cons | apply List.Sublist.cons)⟩ (show n + 1 ≤ _ by omega) (by (try dsimp only); omega)
  · try dsimp only at hc12
    refine TC.exit ?_; refine then_exit ?_; refine loop_exit ?_; refine block_here ?_; refine then_normal ?_; refine TC.seq ?_; refine TC.region ?_; refine TL.run1 (pure_move rfl) rfl ?_; refine TL.run1 (pure_assign rfl) rfl ?_; refine TL.nil' ?_; refine TC.ret ?_
    have hn : n = ps.length := by omega
    subst hn
    exact retF_row rfl (by repeat (first | exact List.Mem.head _ | apply List.Mem.tail)) (by decide) (encP_each _) rfl
end Go.Ob
