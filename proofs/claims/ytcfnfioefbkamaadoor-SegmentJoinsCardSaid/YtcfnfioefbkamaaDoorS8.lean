import Derived.Test.YtcfnfioefbkamaaDoorS7
import Derived.Test.YtcfnfioefbkamaaDoorS4
set_option linter.unusedVariables false
set_option linter.unusedSimpArgs false
namespace Go.Ob
open Go.Proofs
/-! ### the examples; rows of tokens and breaks -/
def e3 (x : Int × Int × Int) : List D := [.v (.int .i64 x.1), .v (.int .i64 x.2.1), .v (.int .i64 x.2.2)]
def tokI (c b : List Int) : List (Int × Int × Int) := (List.range (nT c)).map fun m => (kindT c (posT c m), iAt b (posT c m), iAt b (posT c (m + 1)))
theorem tokI_enc (c b : List Int) : encTk c b = (tokI c b).map e3 := by simp [encTk, tokI, e3, tkAt]
def e2 (x : Int × Int) : List D := [.v (.int .i64 x.1), .v (.int .i64 x.2)]
def brkI (c b : List Int) : Nat → List (Int × Int)
  | 0 => []
  | i + 1 => brkI c b i ++ (if brk c i ≠ 0 then [(iAt b ((i + 1 : Nat) : Int), brk c i)] else [])
theorem brkI_enc (c b : List Int) : ∀ i, brkTo c b i = (brkI c b i).map e2
  | 0 => rfl
  | i + 1 => by
    rw [brkTo, brkI, brkI_enc c b i, List.map_append]
    congr 1
    split <;> rfl
theorem tokV_get (s : ByteArray) (i : Nat) (h : i < (tokV s).length) : ∃ x y z : Int, (tokV s)[i]? = some [.v (.int .i64 x), .v (.int .i64 y), .v (.int .i64 z)] := by
  unfold tokV at h ⊢
  split at h
  · rename_i hok
    rw [encTk_len] at h
    rw [if_pos hok, encTk_get _ _ i h]
    exact ⟨_, _, _, rfl⟩
  · exact absurd h (Nat.not_lt_zero _)
theorem brkV_get (s : ByteArray) (i : Nat) (h : i < (brkV s).length) : ∃ x y : Int, (brkV s)[i]? = some [.v (.int .i64 x), .v (.int .i64 y)] := by
  unfold brkV at h ⊢
  split at h
  · rename_i hok
    rw [brkI_enc, List.length_map] at h
    rw [if_pos hok, brkI_enc, List.getElem?_map, List.getElem?_eq_getElem h]
    exact ⟨_, _, rfl⟩
  · exact absurd h (Nat.not_lt_zero _)
theorem errU_dec (s : ByteArray) : decide (errU s = 0) = okS s := by
  unfold errU
  cases okS s <;> rfl
theorem errU_not {s : ByteArray} (h : okS s = false) : errU s = 12 := by unfold errU; rw [h]; rfl
theorem tokV_len (s : ByteArray) : (tokV s).length ≤ s.size + 1 := by
  unfold tokV
  split
  · rw [encTk_len]
    have h1 := nT_le (scL s)
    rw [scL_len] at h1
    have h2 := cAll_len_le (cls s)
    rw [cls_len] at h2
    have := nR_le s
    omega
  · exact Nat.zero_le _
theorem brkV_len (s : ByteArray) : (brkV s).length ≤ s.size + 1 := by
  unfold brkV
  split
  · have h0 := brkTo_len (scL s) (bnds (cls s)) ((scL s).length - 1)
    rw [scL_len] at h0
    rw [scL_len]
    have h2 := cAll_len_le (cls s)
    rw [cls_len] at h2
    have := nR_le s
    omega
  · exact Nat.zero_le _
def shortS (s : ByteArray) : ByteArray := s.extract 0 (min s.size 240)
theorem shortS_size (s : ByteArray) : (shortS s).size ≤ 240 := by unfold shortS; rw [ByteArray.size_extract]; omega

def kS : ByteArray := ⟨#[73, 116, 39, 115, 32, 51, 46, 53, 32, 109, 44, 32, 110, 111, 63]⟩
theorem kS_ok : okS kS = true := by decide +kernel
theorem kS_tok : tokI (scL kS) (bnds (cls kS)) = [(1, 0, 4), (3, 4, 5), (2, 5, 8), (3, 8, 9), (1, 9, 10), (4, 10, 11), (3, 11, 12), (1, 12, 14), (4, 14, 15)] := by decide +kernel
theorem kS_brk : brkI (scL kS) (bnds (cls kS)) ((scL kS).length - 1) = [(5, 1), (9, 1), (12, 1)] := by decide +kernel
theorem KT_spec : Fun Tryd.prog 13 [.v (.string ⟨#[73, 116, 39, 115, 32, 51, 46, 53, 32, 109, 44, 32, 110, 111, 63]⟩)] (.tup [.sl 3 ([(1, 0, 4), (3, 4, 5), (2, 5, 8), (3, 8, 9), (1, 9, 10), (4, 10, 11), (3, 11, 12), (1, 12, 14), (4, 14, 15)].map e3), .v (.int .i64 0)]) := by
  have h := Tokens_spec kS (by decide)
  have e1 : tokV kS = [(1, 0, 4), (3, 4, 5), (2, 5, 8), (3, 8, 9), (1, 9, 10), (4, 10, 11), (3, 11, 12), (1, 12, 14), (4, 14, 15)].map e3 := by unfold tokV; rw [if_pos kS_ok, tokI_enc, kS_tok]
  have e2 : errU kS = 0 := by unfold errU; rw [if_pos kS_ok]
  rw [e1, e2] at h
  exact h
theorem KB_spec : Fun Tryd.prog 18 [.v (.string ⟨#[73, 116, 39, 115, 32, 51, 46, 53, 32, 109, 44, 32, 110, 111, 63]⟩)] (.tup [.sl 2 ([(5, 1), (9, 1), (12, 1)].map e2), .v (.int .i64 0)]) := by
  have h := Breaks_spec kS (by decide)
  have e1 : brkV kS = [(5, 1), (9, 1), (12, 1)].map e2 := by unfold brkV; rw [if_pos kS_ok, brkI_enc, kS_brk]
  have e2 : errU kS = 0 := by unfold errU; rw [if_pos kS_ok]
  rw [e1, e2] at h
  exact h
set_option maxHeartbeats 1000000 in
set_option maxRecDepth 100000 in
theorem known_spec  : Fun Tryd.prog 15 [] (.v (.bool true)) := by
  refine Fun.enter (n := 64) (rs := [.tmp 0]) Tryd.func15 rfl Tryd.ntmps15 Tryd.results15 rfl (fun w F => ?_); refine TC.seq ?_; refine TC.region ?_; refine TL.run1 (pure_assign rfl) rfl ?_; refine TL.nil' ?_; refine TC.seq ?_; refine TC.region ?_; refine TL.run1 (pure_call (KT_spec) (.cons rfl .nil) Tryd.call13) rfl ?_; refine TL.run1 (pure_move rfl) rfl ?_; (iterate 2 refine TL.run1 (pure_extract rfl rfl) rfl ?_); (iterate 2 refine TL.run1 (pure_assign rfl) rfl ?_); refine TL.nil' ?_; refine TC.seq ?_; refine TC.region ?_; refine TL.run1 (pure_call (KB_spec) (.cons rfl .nil) Tryd.call18) rfl ?_; refine TL.run1 (pure_move rfl) rfl ?_; (iterate 2 refine TL.run1 (pure_extract rfl rfl) rfl ?_); (iterate 2 refine TL.run1 (pure_assign rfl) rfl ?_); refine TL.nil' ?_; refine TC.regionCut [13, 14, 15, 16, 17, 18, 19, 20, 21, 22, 23, 24, 25, 26, 27, 28, 29, 30, 31, 32, 33, 34, 35, 36, 37, 38, 39, 40, 41, 42, 43, 44, 45, 46, 47, 48, 49, 50, 51, 52, 53, 54, 55, 56, 57, 58, 59, 60, 61, 62, 63, 0] 0 (True) ?_ ?_
  · skip
    refine TL.run1 (pure_move rfl) rfl ?_; refine TL.run1 (pure_eql rfl rfl) rfl ?_; refine TL.run1 (pure_move rfl) rfl ?_; refine TL.splitP 15 rfl (fun hg15 => ?_) (fun hg15 => ?_)
    · try dsimp only at hg15
      refine TL.runG rfl rfl (pure_move rfl) rfl ?_; refine TL.runG rfl rfl (pure_eql rfl rfl) rfl ?_; refine TL.run1 (pure_pick_true rfl rfl) rfl ?_; refine TL.run1 (pure_move rfl) rfl ?_; refine TL.splitP 19 rfl (fun hg19 => ?_) (fun hg19 => ?_)
      · try dsimp only at hg19
        refine TL.runG rfl rfl (pure_move rfl) rfl ?_; refine TL.runG rfl rfl (pure_len Ty.sl23 rfl) rfl ?_; refine TL.runG rfl rfl (pure_eql rfl rfl) rfl ?_; refine TL.run1 (pure_pick_true rfl rfl) rfl ?_; refine TL.run1 (pure_move rfl) rfl ?_; refine TL.splitP 24 rfl (fun hg24 => ?_) (fun hg24 => ?_)
        · try dsimp only at hg24
          refine TL.runG rfl rfl (pure_move rfl) rfl ?_; refine TL.runG rfl rfl (pure_indexAddr Ty.sl23 rfl rfl (by omega) rfl (List.cons_ne_nil _ _)) rfl ?_; refine TL.runG rfl rfl (pure_load Ty.agg32 rfl (.succ (.succ (.succ (.zero _))))) rfl ?_; refine TL.runG rfl rfl (pure_build Ty.pl32 Ty.zero32 (.cons rfl rfl (.one rfl) rfl (.here (.nil _)) (.cons rfl rfl (.one rfl) rfl (.skip (.skip (.here (.nil _)))) (.nil _)))) rfl ?_; refine TL.runG rfl rfl (pure_eql_agg Ty.eq32 rfl rfl (.cons (.cons (.cons .nil))) (.cons (.cons (.cons .nil))) rfl rfl) rfl ?_; refine TL.run1 (pure_pick_true rfl rfl) rfl ?_; refine TL.run1 (pure_move rfl) rfl ?_; refine TL.splitP 31 rfl (fun hg31 => ?_) (fun hg31 => ?_)
          · try dsimp only at hg31
            refine TL.runG rfl rfl (pure_move rfl) rfl ?_; refine TL.runG rfl rfl (pure_indexAddr Ty.sl23 rfl rfl (by omega) rfl (List.cons_ne_nil _ _)) rfl ?_; refine TL.runG rfl rfl (pure_load Ty.agg32 rfl (.succ (.succ (.succ (.zero _))))) rfl ?_; refine TL.runG rfl rfl (pure_build3 Ty.pl32 Ty.zero32 rfl rfl rfl) rfl ?_; refine TL.runG rfl rfl (pure_eql_agg Ty.eq32 rfl rfl (.cons (.cons (.cons .nil))) (.cons (.cons (.cons .nil))) rfl rfl) rfl ?_; refine TL.run1 (pure_pick_true rfl rfl) rfl ?_; refine TL.run1 (pure_move rfl) rfl ?_; refine TL.splitP 38 rfl (fun hg38 => ?_) (fun hg38 => ?_)
            · try dsimp only at hg38
              refine TL.runG rfl rfl (pure_move rfl) rfl ?_; refine TL.runG rfl rfl (pure_indexAddr Ty.sl23 rfl rfl (by omega) rfl (List.cons_ne_nil _ _)) rfl ?_; refine TL.runG rfl rfl (pure_fieldAddr Ty.f32_0 rfl (.zero _) (List.cons_ne_nil _ _)) rfl ?_; refine TL.runG rfl rfl (pure_load1 Ty.one3 rfl) rfl ?_; refine TL.runG rfl rfl (pure_eql rfl rfl) rfl ?_; refine TL.run1 (pure_pick_true rfl rfl) rfl ?_; refine TL.run1 (pure_move rfl) rfl ?_; refine TL.splitP 45 rfl (fun hg45 => ?_) (fun hg45 => ?_)
              · try dsimp only at hg45
                refine TL.runG rfl rfl (pure_move rfl) rfl ?_; refine TL.runG rfl rfl (pure_len Ty.sl39 rfl) rfl ?_; refine TL.runG rfl rfl (pure_eql rfl rfl) rfl ?_; refine TL.run1 (pure_pick_true rfl rfl) rfl ?_; refine TL.run1 (pure_move rfl) rfl ?_; refine TL.splitP 50 rfl (fun hg50 => ?_) (fun hg50 => ?_)
                · try dsimp only at hg50
                  refine TL.runG rfl rfl (pure_move rfl) rfl ?_; refine TL.runG rfl rfl (pure_indexAddr Ty.sl39 rfl rfl (by omega) rfl (List.cons_ne_nil _ _)) rfl ?_; refine TL.runG rfl rfl (pure_load Ty.agg46 rfl (.succ (.succ (.zero _)))) rfl ?_; refine TL.runG rfl rfl (pure_build Ty.pl46 Ty.zero46 (.cons rfl rfl (.one rfl) rfl (.here (.nil _)) (.cons rfl rfl (.one rfl) rfl (.skip (.here (.nil _))) (.nil _)))) rfl ?_; refine TL.runG rfl rfl (pure_eql_agg Ty.eq46 rfl rfl (.cons (.cons .nil)) (.cons (.cons .nil)) rfl rfl) rfl ?_; refine TL.run1 (pure_pick_true rfl rfl) rfl ?_; refine TL.run1 (pure_move rfl) rfl ?_; refine TL.splitP 57 rfl (fun hg57 => ?_) (fun hg57 => ?_)
                  · try dsimp only at hg57
                    refine TL.runG rfl rfl (pure_move rfl) rfl ?_; refine TL.runG rfl rfl (pure_indexAddr Ty.sl39 rfl rfl (by omega) rfl (List.cons_ne_nil _ _)) rfl ?_; refine TL.runG rfl rfl (pure_fieldAddr Ty.f46_0 rfl (.zero _) (List.cons_ne_nil _ _)) rfl ?_; refine TL.runG rfl rfl (pure_load1 Ty.one3 rfl) rfl ?_; refine TL.runG rfl rfl (pure_eql rfl rfl) rfl ?_; refine TL.run1 (pure_pick_true rfl rfl) rfl ?_; refine TL.run1 (pure_assign rfl) rfl ?_; refine TL.cutEnd (by repeat (first | exact Same.refl _ _ | refine Same.put rfl ?_)) rfl ?_
                    first | (simp; done) | (simp_all; done) | (simp_all [e3, e2]; done) | grind
                  · try dsimp only at hg57
                    (iterate 5 refine TL.passG rfl rfl rfl rfl ?_); refine TL.run1 (pure_pick_false rfl rfl) rfl ?_; refine TL.run1 (pure_assign rfl) rfl ?_; refine TL.cutEnd (by repeat (first | exact Same.refl _ _ | refine Same.put rfl ?_)) rfl ?_
                    first | (simp; done) | (simp_all; done) | (simp_all [e3, e2]; done) | grind
                · try dsimp only at hg50
                  (iterate 5 refine TL.passG rfl rfl rfl rfl ?_); refine TL.run1 (pure_pick_false rfl rfl) rfl ?_; refine TL.run1 (pure_move rfl) rfl ?_; (iterate 5 refine TL.passG rfl rfl rfl rfl ?_); refine TL.run1 (pure_pick_false rfl rfl) rfl ?_; refine TL.run1 (pure_assign rfl) rfl ?_; refine TL.cutEnd (by repeat (first | exact Same.refl _ _ | refine Same.put rfl ?_)) rfl ?_
                  first | (simp; done) | (simp_all; done) | (simp_all [e3, e2]; done) | grind
              · try dsimp only at hg45
                (iterate 3 refine TL.passG rfl rfl rfl rfl ?_); refine TL.run1 (pure_pick_false rfl rfl) rfl ?_; refine TL.run1 (pure_move rfl) rfl ?_; (iterate 5 refine TL.passG rfl rfl rfl rfl ?_); refine TL.run1 (pure_pick_false rfl rfl) rfl ?_; refine TL.run1 (pure_move rfl) rfl ?_; (iterate 5 refine TL.passG rfl rfl rfl rfl ?_); refine TL.run1 (pure_pick_false rfl rfl) rfl ?_; refine TL.run1 (pure_assign rfl) rfl ?_; refine TL.cutEnd (by repeat (first | exact Same.refl _ _ | refine Same.put rfl ?_)) rfl ?_
                first | (simp; done) | (simp_all; done) | (simp_all [e3, e2]; done) | grind
            · try dsimp only at hg38
              (iterate 5 refine TL.passG rfl rfl rfl rfl ?_); refine TL.run1 (pure_pick_false rfl rfl) rfl ?_; refine TL.run1 (pure_move rfl) rfl ?_; (iterate 3 refine TL.passG rfl rfl rfl rfl ?_); refine TL.run1 (pure_pick_false rfl rfl) rfl ?_; refine TL.run1 (pure_move rfl) rfl ?_; (iterate 5 refine TL.passG rfl rfl rfl rfl ?_); refine TL.run1 (pure_pick_false rfl rfl) rfl ?_; refine TL.run1 (pure_move rfl) rfl ?_; (iterate 5 refine TL.passG rfl rfl rfl rfl ?_); refine TL.run1 (pure_pick_false rfl rfl) rfl ?_; refine TL.run1 (pure_assign rfl) rfl ?_; refine TL.cutEnd (by repeat (first | exact Same.refl _ _ | refine Same.put rfl ?_)) rfl ?_
              first | (simp; done) | (simp_all; done) | (simp_all [e3, e2]; done) | grind
          · try dsimp only at hg31
            (iterate 5 refine TL.passG rfl rfl rfl rfl ?_); refine TL.run1 (pure_pick_false rfl rfl) rfl ?_; refine TL.run1 (pure_move rfl) rfl ?_; (iterate 5 refine TL.passG rfl rfl rfl rfl ?_); refine TL.run1 (pure_pick_false rfl rfl) rfl ?_; refine TL.run1 (pure_move rfl) rfl ?_; (iterate 3 refine TL.passG rfl rfl rfl rfl ?_); refine TL.run1 (pure_pick_false rfl rfl) rfl ?_; refine TL.run1 (pure_move rfl) rfl ?_; (iterate 5 refine TL.passG rfl rfl rfl rfl ?_); refine TL.run1 (pure_pick_false rfl rfl) rfl ?_; refine TL.run1 (pure_move rfl) rfl ?_; (iterate 5 refine TL.passG rfl rfl rfl rfl ?_); refine TL.run1 (pure_pick_false rfl rfl) rfl ?_; refine TL.run1 (pure_assign rfl) rfl ?_; refine TL.cutEnd (by repeat (first | exact Same.refl _ _ | refine Same.put rfl ?_)) rfl ?_
            first | (simp; done) | (simp_all; done) | (simp_all [e3, e2]; done) | grind
        · try dsimp only at hg24
          (iterate 5 refine TL.passG rfl rfl rfl rfl ?_); refine TL.run1 (pure_pick_false rfl rfl) rfl ?_; refine TL.run1 (pure_move rfl) rfl ?_; (iterate 5 refine TL.passG rfl rfl rfl rfl ?_); refine TL.run1 (pure_pick_false rfl rfl) rfl ?_; refine TL.run1 (pure_move rfl) rfl ?_; (iterate 5 refine TL.passG rfl rfl rfl rfl ?_); refine TL.run1 (pure_pick_false rfl rfl) rfl ?_; refine TL.run1 (pure_move rfl) rfl ?_; (iterate 3 refine TL.passG rfl rfl rfl rfl ?_); refine TL.run1 (pure_pick_false rfl rfl) rfl ?_; refine TL.run1 (pure_move rfl) rfl ?_; (iterate 5 refine TL.passG rfl rfl rfl rfl ?_); refine TL.run1 (pure_pick_false rfl rfl) rfl ?_; refine TL.run1 (pure_move rfl) rfl ?_; (iterate 5 refine TL.passG rfl rfl rfl rfl ?_); refine TL.run1 (pure_pick_false rfl rfl) rfl ?_; refine TL.run1 (pure_assign rfl) rfl ?_; refine TL.cutEnd (by repeat (first | exact Same.refl _ _ | refine Same.put rfl ?_)) rfl ?_
          first | (simp; done) | (simp_all; done) | (simp_all [e3, e2]; done) | grind
      · try dsimp only at hg19
        (iterate 3 refine TL.passG rfl rfl rfl rfl ?_); refine TL.run1 (pure_pick_false rfl rfl) rfl ?_; refine TL.run1 (pure_move rfl) rfl ?_; (iterate 5 refine TL.passG rfl rfl rfl rfl ?_); refine TL.run1 (pure_pick_false rfl rfl) rfl ?_; refine TL.run1 (pure_move rfl) rfl ?_; (iterate 5 refine TL.passG rfl rfl rfl rfl ?_); refine TL.run1 (pure_pick_false rfl rfl) rfl ?_; refine TL.run1 (pure_move rfl) rfl ?_; (iterate 5 refine TL.passG rfl rfl rfl rfl ?_); refine TL.run1 (pure_pick_false rfl rfl) rfl ?_; refine TL.run1 (pure_move rfl) rfl ?_; (iterate 3 refine TL.passG rfl rfl rfl rfl ?_); refine TL.run1 (pure_pick_false rfl rfl) rfl ?_; refine TL.run1 (pure_move rfl) rfl ?_; (iterate 5 refine TL.passG rfl rfl rfl rfl ?_); refine TL.run1 (pure_pick_false rfl rfl) rfl ?_; refine TL.run1 (pure_move rfl) rfl ?_; (iterate 5 refine TL.passG rfl rfl rfl rfl ?_); refine TL.run1 (pure_pick_false rfl rfl) rfl ?_; refine TL.run1 (pure_assign rfl) rfl ?_; refine TL.cutEnd (by repeat (first | exact Same.refl _ _ | refine Same.put rfl ?_)) rfl ?_
        first | (simp; done) | (simp_all; done) | (simp_all [e3, e2]; done) | grind
    · try dsimp only at hg15
      (iterate 2 refine TL.passG rfl rfl rfl rfl ?_); refine TL.run1 (pure_pick_false rfl rfl) rfl ?_; refine TL.run1 (pure_move rfl) rfl ?_; (iterate 3 refine TL.passG rfl rfl rfl rfl ?_); refine TL.run1 (pure_pick_false rfl rfl) rfl ?_; refine TL.run1 (pure_move rfl) rfl ?_; (iterate 5 refine TL.passG rfl rfl rfl rfl ?_); refine TL.run1 (pure_pick_false rfl rfl) rfl ?_; refine TL.run1 (pure_move rfl) rfl ?_; (iterate 5 refine TL.passG rfl rfl rfl rfl ?_); refine TL.run1 (pure_pick_false rfl rfl) rfl ?_; refine TL.run1 (pure_move rfl) rfl ?_; (iterate 5 refine TL.passG rfl rfl rfl rfl ?_); refine TL.run1 (pure_pick_false rfl rfl) rfl ?_; refine TL.run1 (pure_move rfl) rfl ?_; (iterate 3 refine TL.passG rfl rfl rfl rfl ?_); refine TL.run1 (pure_pick_false rfl rfl) rfl ?_; refine TL.run1 (pure_move rfl) rfl ?_; (iterate 5 refine TL.passG rfl rfl rfl rfl ?_); refine TL.run1 (pure_pick_false rfl rfl) rfl ?_; refine TL.run1 (pure_move rfl) rfl ?_; (iterate 5 refine TL.passG rfl rfl rfl rfl ?_); refine TL.run1 (pure_pick_false rfl rfl) rfl ?_; refine TL.run1 (pure_assign rfl) rfl ?_; refine TL.cutEnd (by repeat (first | exact Same.refl _ _ | refine Same.put rfl ?_)) rfl ?_
      first | (simp; done) | (simp_all; done) | (simp_all [e3, e2]; done) | grind
  refine TC.ret ?_
  exact ret_bool rfl (by simp)
set_option maxRecDepth 100000 in
theorem short_spec (s : ByteArray) : Fun Tryd.prog 12 [.v (.string s)] (.v (.string (shortS s))) := by
  refine Fun.enter (n := 8) (rs := [.tmp 2]) Tryd.func12 rfl Tryd.ntmps12 Tryd.results12 rfl (fun w F => ?_); refine TC.seq ?_; refine TC.region ?_; refine TL.run1 (pure_assign rfl) rfl ?_; refine TL.nil' ?_; refine TC.seq ?_; refine TC.region ?_; (iterate 2 refine TL.run1 (pure_move rfl) rfl ?_); refine TL.run1 (pure_len_str Tryd.underlying9 rfl) rfl ?_; refine TL.run1 (pure_min rfl rfl) rfl ?_; refine TL.run1 (pure_slice_str (l := 0) (h := min s.size 240) Tryd.underlying9 rfl rfl (by rw [show ((min s.size 240 : Nat) : Int) = min (s.size : Int) 240 by omega]; rfl) (by omega) (by omega)) rfl ?_; refine TL.run1 (pure_assign rfl) rfl ?_; refine TL.nil' ?_; refine TC.ret ?_
  exact ret_str rfl rfl
set_option maxRecDepth 100000 in
theorem SegmentClasses_spec (p : Int) : Fun Tryd.prog 7 [.v (.int .i64 p)] (.v (.bool true)) := by
  refine Fun.enter (n := 11) (rs := [.tmp 2]) Tryd.func7 rfl Tryd.ntmps7 Tryd.results7 rfl (fun w F => ?_); refine TC.seq ?_; refine TC.region ?_; refine TL.run1 (pure_assign rfl) rfl ?_; refine TL.nil' ?_; refine TC.regionCut [3, 4, 5, 6, 7, 8, 9, 10, 2] 2 (True) ?_ ?_
  · skip
    refine TL.run1 (pure_call (known_spec) .nil Tryd.call15) rfl ?_; refine TL.run1 (pure_move rfl) rfl ?_; refine TL.split 4 rfl (fun hg4 => ?_) (fun hg4 => ?_)
    · try dsimp only at hg4
      refine TL.runG rfl rfl (pure_move rfl) rfl ?_; refine TL.runG rfl rfl (pure_call (SClass_spec p) (.cons rfl .nil) Tryd.call23) rfl ?_; refine TL.runG rfl rfl (pure_move rfl) rfl ?_; refine TL.runG rfl rfl (pure_call (R3Class_spec p) (.cons rfl .nil) Tryd.call21) rfl ?_; refine TL.runG rfl rfl (pure_eql rfl rfl) rfl ?_; refine TL.run1 (pure_pick_true rfl rfl) rfl ?_; refine TL.run1 (pure_assign rfl) rfl ?_; refine TL.cutEnd (by repeat (first | exact Same.refl _ _ | refine Same.put rfl ?_)) rfl ?_
      first | rfl | (simp_all [encI, encT]; done) | (simp_all; omega) | grind
    · try dsimp only at hg4
      (iterate 5 refine TL.passG rfl rfl rfl rfl ?_); refine TL.run1 (pure_pick_false rfl rfl) rfl ?_; refine TL.run1 (pure_assign rfl) rfl ?_; refine TL.cutEnd (by repeat (first | exact Same.refl _ _ | refine Same.put rfl ?_)) rfl ?_
      first | rfl | (simp_all [encI, encT]; done) | (simp_all; omega) | grind
  refine TC.ret ?_
  exact ret_bool rfl (by simp)
set_option maxHeartbeats 1000000 in
set_option maxRecDepth 100000 in
theorem SegmentTokens_spec (s : ByteArray) : Fun Tryd.prog 3 [.v (.string s)] (.v (.bool true)) := by
  refine Fun.enter (n := 86) (rs := [.tmp 2]) Tryd.func3 rfl Tryd.ntmps3 Tryd.results3 rfl (fun w F => ?_); refine TC.seq ?_; refine TC.region ?_; refine TL.run1 (pure_assign rfl) rfl ?_; refine TL.nil' ?_; refine TC.seq ?_; refine TC.region ?_; refine TL.run1 (pure_move rfl) rfl ?_; refine TL.run1 (pure_call (short_spec s) (.cons rfl .nil) Tryd.call12) rfl ?_; refine TL.run1 (pure_assign rfl) rfl ?_; refine TL.nil' ?_; refine TC.seq ?_
  obtain ⟨c, hcd⟩ : ∃ c, shortS s = c := ⟨_, rfl⟩
  rw [hcd]
  have hcs : c.size ≤ 240 := hcd ▸ shortS_size s
  have hvl := tokV_len c
  refine TC.region ?_; refine TL.run1 (pure_move rfl) rfl ?_; refine TL.run1 (pure_call (Tokens_spec c (by omega)) (.cons rfl .nil) Tryd.call13) rfl ?_; refine TL.run1 (pure_move rfl) rfl ?_; (iterate 2 refine TL.run1 (pure_extract rfl rfl) rfl ?_); (iterate 2 refine TL.run1 (pure_assign rfl) rfl ?_); refine TL.nil' ?_; refine TC.seq ?_; refine TC.region ?_; refine TL.run1 (pure_move rfl) rfl ?_; refine TL.run1 (pure_call (R3Tokens_spec c (by omega)) (.cons rfl .nil) Tryd.call14) rfl ?_; refine TL.run1 (pure_move rfl) rfl ?_; (iterate 2 refine TL.run1 (pure_extract rfl rfl) rfl ?_); (iterate 2 refine TL.run1 (pure_assign rfl) rfl ?_); refine TL.nil' ?_; refine TC.seq ?_; refine TC.regionCut [20, 21, 22, 23, 24, 25, 26, 27, 28, 29, 30, 31, 32, 33, 34, 35, 36, 37, 38, 39, 40, 41, 42] 42 (False) ?_ ?_
  · skip
    refine TL.run1 (pure_call (known_spec) .nil Tryd.call15) rfl ?_; refine TL.run1 (pure_not rfl) rfl ?_; refine TL.run1 (pure_move rfl) rfl ?_; refine TL.split 22 rfl (fun hg22 => ?_) (fun hg22 => ?_)
    · try dsimp only at hg22
      (iterate 5 refine TL.passG rfl rfl rfl rfl ?_); refine TL.run1 (pure_pick_true rfl rfl) rfl ?_; refine TL.run1 (pure_move rfl) rfl ?_; (iterate 4 refine TL.passG rfl rfl rfl rfl ?_); refine TL.run1 (pure_pick_true rfl rfl) rfl ?_; refine TL.run1 (pure_move rfl) rfl ?_; (iterate 6 refine TL.passG rfl rfl rfl rfl ?_); refine TL.run1 (pure_pick_true rfl rfl) rfl ?_; refine TL.cutEnd (by repeat (first | exact Same.refl _ _ | refine Same.put rfl ?_)) rfl ?_
      have hE := errU_dec c
      have hN := @errU_not c
      cases hok : okS c <;> simp_all
    · try dsimp only at hg22
      refine TL.runG rfl rfl (pure_move rfl) rfl ?_; refine TL.runG rfl rfl (pure_len Ty.sl23 rfl) rfl ?_; refine TL.runG rfl rfl (pure_move rfl) rfl ?_; refine TL.runG rfl rfl (pure_len Ty.sl27 rfl) rfl ?_; refine TL.runG rfl rfl (pure_neq rfl rfl) rfl ?_; refine TL.run1 (pure_pick_false rfl rfl) rfl ?_; refine TL.run1 (pure_move rfl) rfl ?_; refine TL.splitP 29 rfl (fun hg29 => ?_) (fun hg29 => ?_)
      · try dsimp only at hg29
        (iterate 4 refine TL.passG rfl rfl rfl rfl ?_); refine TL.run1 (pure_pick_true rfl rfl) rfl ?_; refine TL.run1 (pure_move rfl) rfl ?_; (iterate 6 refine TL.passG rfl rfl rfl rfl ?_); refine TL.run1 (pure_pick_true rfl rfl) rfl ?_; refine TL.cutEnd (by repeat (first | exact Same.refl _ _ | refine Same.put rfl ?_)) rfl ?_
        have hE := errU_dec c
        have hN := @errU_not c
        cases hok : okS c <;> simp_all
      · try dsimp only at hg29
        refine TL.runG rfl rfl (pure_move rfl) rfl ?_; refine TL.runG rfl rfl (pure_eql rfl rfl) rfl ?_; refine TL.runG rfl rfl (pure_move rfl) rfl ?_; refine TL.runG rfl rfl (pure_neq_bool Tryd.underlying4 rfl rfl) rfl ?_; refine TL.run1 (pure_pick_false rfl rfl) rfl ?_; refine TL.run1 (pure_move rfl) rfl ?_; refine TL.splitP 35 rfl (fun hg35 => ?_) (fun hg35 => ?_)
        · try dsimp only at hg35
          (iterate 6 refine TL.passG rfl rfl rfl rfl ?_); refine TL.run1 (pure_pick_true rfl rfl) rfl ?_; refine TL.cutEnd (by repeat (first | exact Same.refl _ _ | refine Same.put rfl ?_)) rfl ?_
          have hE := errU_dec c
          have hN := @errU_not c
          cases hok : okS c <;> simp_all
        · try dsimp only at hg35
          refine TL.runG rfl rfl (pure_move rfl) rfl ?_; refine TL.runG rfl rfl (pure_not rfl) rfl ?_; refine TL.runG rfl rfl (pure_move rfl) rfl ?_; refine TL.split 38 rfl (fun hg38 => ?_) (fun hg38 => ?_)
          · try dsimp only at hg38
            refine TL.runG rfl rfl (pure_move rfl) rfl ?_; refine TL.runG rfl rfl (pure_neq rfl rfl) rfl ?_; refine TL.runG rfl rfl (pure_pick_true rfl rfl) rfl ?_; refine TL.run1 (pure_pick_false rfl rfl) rfl ?_; refine TL.cutEnd (by repeat (first | exact Same.refl _ _ | refine Same.put rfl ?_)) rfl ?_
            have hE := errU_dec c
            have hN := @errU_not c
            cases hok : okS c <;> simp_all
          · try dsimp only at hg38
            (iterate 2 refine TL.passG rfl rfl rfl rfl ?_); refine TL.runG rfl rfl (pure_pick_false rfl rfl) rfl ?_; refine TL.run1 (pure_pick_false rfl rfl) rfl ?_; refine TL.cutEnd (by repeat (first | exact Same.refl _ _ | refine Same.put rfl ?_)) rfl ?_
            have hE := errU_dec c
            have hN := @errU_not c
            cases hok : okS c <;> simp_all
  refine TC.condD rfl (fun hc42 => ?_) (fun hc42 => ?_)
  · try dsimp only at hc42
    all_goals exact hc42.elim
  · try dsimp only at hc42
    refine TC.skip' ?_; (iterate 2 refine TC.seq ?_); refine TC.region ?_; refine TL.run1 (pure_assign rfl) rfl ?_; refine TL.nil' ?_; refine TC.block ?_; refine TC.loopX (X := Nat) (fun i => [(3, .sl 3 (tokV c)), (5, .sl 3 (tokV c)), (7, .v (.int .i64 i))]) (fun i => []) (fun i => (i ≤ (tokV c).length)) (fun i => (tokV c).length - i) (0) ⟨by skip; repeat (first | exact Agree.nil | refine Agree.cons rfl ?_), by skip; repeat (first | exact List.nil_sublist _ | exact List.Sublist.refl _ | apply List.Sublist.cons_cons | apply List.Sublist.cons)⟩ ?_ ?_
    · skip
      exact Nat.zero_le _
    intro i
    intro h1
    show TC _ _ _ (Env.of [(3, .sl 3 (tokV c)), (5, .sl 3 (tokV c)), (7, .v (.int .i64 i))]) []
    (iterate 2 refine TC.seq ?_); refine TC.region ?_; (iterate 2 refine TL.run1 (pure_move rfl) rfl ?_); refine TL.run1 (pure_len Ty.sl23 rfl) rfl ?_; refine TL.run1 (pure_lss rfl rfl) rfl ?_; refine TL.nil' ?_; refine TC.condD rfl (fun hc46 => ?_) (fun hc46 => ?_)
    · try dsimp only at hc46
      refine TC.skip' ?_; refine TC.seq ?_; refine TC.block ?_
      obtain ⟨x, y, z, hrow0⟩ := tokV_get c i (by omega)
      have hrow : (tokV c)[((i : Nat) : Int).toNat]? = some [.v (.int .i64 x), .v (.int .i64 y), .v (.int .i64 z)] := hrow0
      clear hrow0
      refine TC.drawCut [49, 50, 51, 52, 53, 54, 55, 56, 57, 58, 59, 60, 61, 62, 63, 64, 65, 66, 67, 68, 69, 70, 71, 72, 73, 74, 75, 76, 77, 78, 79, 80, 81, 82, 83, 84, 85] 85 (False) Ty.follows (by kernel_rfl) ?_ ?_
      · skip
        (iterate 2 refine TD.run1 (pure_move rfl) rfl ?_); refine TD.run1 (pure_indexAddr Ty.sl23 rfl rfl (by omega) (by assumption) (List.cons_ne_nil _ _)) rfl ?_; refine TD.run1 (pure_fieldAddr Ty.f32_0 rfl (.zero _) (List.cons_ne_nil _ _)) rfl ?_; refine TD.run1 (pure_load1 Ty.one3 rfl) rfl ?_; (iterate 2 refine TD.run1 (pure_move rfl) rfl ?_); refine TD.run1 (pure_indexAddr Ty.sl27 rfl rfl (by omega) (by assumption) (List.cons_ne_nil _ _)) rfl ?_; refine TD.run1 (pure_fieldAddr Ty.f33_0 rfl (.zero _) (List.cons_ne_nil _ _)) rfl ?_; refine TD.run1 (pure_load1 Ty.one3 rfl) rfl ?_; refine TD.run1 (pure_neq rfl rfl) rfl ?_; refine TD.run1 (pure_move rfl) rfl ?_; refine TD.splitP 60 rfl (fun hg60 => ?_) (fun hg60 => ?_)
        · try dsimp only at hg60
          (iterate 11 refine TD.passG rfl rfl rfl rfl ?_); refine TD.run1 (pure_pick_true rfl rfl) rfl ?_; refine TD.run1 (pure_move rfl) rfl ?_; (iterate 11 refine TD.passG rfl rfl rfl rfl ?_); refine TD.run1 (pure_pick_true rfl rfl) rfl ?_; refine TD.cutEnd (by repeat (first | exact Same.refl _ _ | refine Same.put rfl ?_)) rfl ?_
          first | (simp; done) | (simp_all; done) | grind
        · try dsimp only at hg60
          (iterate 2 refine TD.runG rfl rfl (pure_move rfl) rfl ?_); refine TD.runG rfl rfl (pure_indexAddr Ty.sl23 rfl rfl (by omega) (by assumption) (List.cons_ne_nil _ _)) rfl ?_; refine TD.runG rfl rfl (pure_fieldAddr Ty.f32_1 rfl (.succ (.zero _)) (List.cons_ne_nil _ _)) rfl ?_; refine TD.runG rfl rfl (pure_load1 Ty.one3 rfl) rfl ?_; (iterate 2 refine TD.runG rfl rfl (pure_move rfl) rfl ?_); refine TD.runG rfl rfl (pure_indexAddr Ty.sl27 rfl rfl (by omega) (by assumption) (List.cons_ne_nil _ _)) rfl ?_; refine TD.runG rfl rfl (pure_fieldAddr Ty.f33_1 rfl (.succ (.zero _)) (List.cons_ne_nil _ _)) rfl ?_; refine TD.runG rfl rfl (pure_load1 Ty.one3 rfl) rfl ?_; refine TD.runG rfl rfl (pure_neq rfl rfl) rfl ?_; refine TD.run1 (pure_pick_false rfl rfl) rfl ?_; refine TD.run1 (pure_move rfl) rfl ?_; refine TD.splitP 73 rfl (fun hg73 => ?_) (fun hg73 => ?_)
          · try dsimp only at hg73
            (iterate 11 refine TD.passG rfl rfl rfl rfl ?_); refine TD.run1 (pure_pick_true rfl rfl) rfl ?_; refine TD.cutEnd (by repeat (first | exact Same.refl _ _ | refine Same.put rfl ?_)) rfl ?_
            first | (simp; done) | (simp_all; done) | grind
          · try dsimp only at hg73
            (iterate 2 refine TD.runG rfl rfl (pure_move rfl) rfl ?_); refine TD.runG rfl rfl (pure_indexAddr Ty.sl23 rfl rfl (by omega) (by assumption) (List.cons_ne_nil _ _)) rfl ?_; refine TD.runG rfl rfl (pure_fieldAddr Ty.f32_2 rfl (.succ (.succ (.zero _))) (List.cons_ne_nil _ _)) rfl ?_; refine TD.runG rfl rfl (pure_load1 Ty.one3 rfl) rfl ?_; (iterate 2 refine TD.runG rfl rfl (pure_move rfl) rfl ?_); refine TD.runG rfl rfl (pure_indexAddr Ty.sl27 rfl rfl (by omega) (by assumption) (List.cons_ne_nil _ _)) rfl ?_; refine TD.runG rfl rfl (pure_fieldAddr Ty.f33_2 rfl (.succ (.succ (.zero _))) (List.cons_ne_nil _ _)) rfl ?_; refine TD.runG rfl rfl (pure_load1 Ty.one3 rfl) rfl ?_; refine TD.runG rfl rfl (pure_neq rfl rfl) rfl ?_; refine TD.run1 (pure_pick_false rfl rfl) rfl ?_; refine TD.cutEnd (by repeat (first | exact Same.refl _ _ | refine Same.put rfl ?_)) rfl ?_
            first | (simp; done) | (simp_all; done) | grind
      refine TC.condD rfl (fun hc85 => ?_) (fun hc85 => ?_)
      · try dsimp only at hc85
        all_goals exact hc85.elim
      · try dsimp only at hc85
        refine TC.skip ?_; refine block_normal ?_; refine then_normal ?_; refine TC.region ?_; refine TL.run1 (pure_move rfl) rfl ?_; refine TL.run1 (pure_add rfl rfl (mkI64 (by omega) (by omega))) rfl ?_; refine TL.run1 (pure_assign rfl) rfl ?_; refine TL.nil ?_; refine loop_next (i + 1) ⟨by ((try dsimp only); rw [show (((i + 1 : Nat)) : Int) = (i : Int) + 1 by omega]; repeat (first | exact Agree.nil | refine Agree.cons rfl ?_)), by repeat (first | exact List.nil_sublist _ | exact List.Sublist.refl _ | apply List.Sublist.cons_cons | apply List.Sublist.cons)⟩ (show i + 1 ≤ _ by omega) (by omega)
    · try dsimp only at hc46
      refine TC.exit ?_; refine then_exit ?_; refine loop_exit ?_; refine block_here ?_; refine then_normal ?_; refine TC.seq ?_; refine TC.region ?_; refine TL.run1 (pure_assign rfl) rfl ?_; refine TL.nil' ?_; refine TC.ret ?_
      exact ret_bool rfl (by simp)
set_option maxHeartbeats 1000000 in
set_option maxRecDepth 100000 in
theorem SegmentBreaks_spec (s : ByteArray) : Fun Tryd.prog 5 [.v (.string s)] (.v (.bool true)) := by
  refine Fun.enter (n := 73) (rs := [.tmp 2]) Tryd.func5 rfl Tryd.ntmps5 Tryd.results5 rfl (fun w F => ?_); refine TC.seq ?_; refine TC.region ?_; refine TL.run1 (pure_assign rfl) rfl ?_; refine TL.nil' ?_; refine TC.seq ?_; refine TC.region ?_; refine TL.run1 (pure_move rfl) rfl ?_; refine TL.run1 (pure_call (short_spec s) (.cons rfl .nil) Tryd.call12) rfl ?_; refine TL.run1 (pure_assign rfl) rfl ?_; refine TL.nil' ?_; refine TC.seq ?_
  obtain ⟨c, hcd⟩ : ∃ c, shortS s = c := ⟨_, rfl⟩
  rw [hcd]
  have hcs : c.size ≤ 240 := hcd ▸ shortS_size s
  have hvl := brkV_len c
  refine TC.region ?_; refine TL.run1 (pure_move rfl) rfl ?_; refine TL.run1 (pure_call (Breaks_spec c (by omega)) (.cons rfl .nil) Tryd.call18) rfl ?_; refine TL.run1 (pure_move rfl) rfl ?_; (iterate 2 refine TL.run1 (pure_extract rfl rfl) rfl ?_); (iterate 2 refine TL.run1 (pure_assign rfl) rfl ?_); refine TL.nil' ?_; refine TC.seq ?_; refine TC.region ?_; refine TL.run1 (pure_move rfl) rfl ?_; refine TL.run1 (pure_call (R3Breaks_spec c (by omega)) (.cons rfl .nil) Tryd.call19) rfl ?_; refine TL.run1 (pure_move rfl) rfl ?_; (iterate 2 refine TL.run1 (pure_extract rfl rfl) rfl ?_); (iterate 2 refine TL.run1 (pure_assign rfl) rfl ?_); refine TL.nil' ?_; refine TC.seq ?_; refine TC.regionCut [20, 21, 22, 23, 24, 25, 26, 27, 28, 29, 30, 31, 32, 33, 34, 35, 36, 37, 38, 39, 40, 41, 42] 42 (False) ?_ ?_
  · skip
    refine TL.run1 (pure_call (known_spec) .nil Tryd.call15) rfl ?_; refine TL.run1 (pure_not rfl) rfl ?_; refine TL.run1 (pure_move rfl) rfl ?_; refine TL.split 22 rfl (fun hg22 => ?_) (fun hg22 => ?_)
    · try dsimp only at hg22
      (iterate 5 refine TL.passG rfl rfl rfl rfl ?_); refine TL.run1 (pure_pick_true rfl rfl) rfl ?_; refine TL.run1 (pure_move rfl) rfl ?_; (iterate 4 refine TL.passG rfl rfl rfl rfl ?_); refine TL.run1 (pure_pick_true rfl rfl) rfl ?_; refine TL.run1 (pure_move rfl) rfl ?_; (iterate 6 refine TL.passG rfl rfl rfl rfl ?_); refine TL.run1 (pure_pick_true rfl rfl) rfl ?_; refine TL.cutEnd (by repeat (first | exact Same.refl _ _ | refine Same.put rfl ?_)) rfl ?_
      have hE := errU_dec c
      have hN := @errU_not c
      cases hok : okS c <;> simp_all
    · try dsimp only at hg22
      refine TL.runG rfl rfl (pure_move rfl) rfl ?_; refine TL.runG rfl rfl (pure_len Ty.sl39 rfl) rfl ?_; refine TL.runG rfl rfl (pure_move rfl) rfl ?_; refine TL.runG rfl rfl (pure_len Ty.sl42 rfl) rfl ?_; refine TL.runG rfl rfl (pure_neq rfl rfl) rfl ?_; refine TL.run1 (pure_pick_false rfl rfl) rfl ?_; refine TL.run1 (pure_move rfl) rfl ?_; refine TL.splitP 29 rfl (fun hg29 => ?_) (fun hg29 => ?_)
      · try dsimp only at hg29
        (iterate 4 refine TL.passG rfl rfl rfl rfl ?_); refine TL.run1 (pure_pick_true rfl rfl) rfl ?_; refine TL.run1 (pure_move rfl) rfl ?_; (iterate 6 refine TL.passG rfl rfl rfl rfl ?_); refine TL.run1 (pure_pick_true rfl rfl) rfl ?_; refine TL.cutEnd (by repeat (first | exact Same.refl _ _ | refine Same.put rfl ?_)) rfl ?_
        have hE := errU_dec c
        have hN := @errU_not c
        cases hok : okS c <;> simp_all
      · try dsimp only at hg29
        refine TL.runG rfl rfl (pure_move rfl) rfl ?_; refine TL.runG rfl rfl (pure_eql rfl rfl) rfl ?_; refine TL.runG rfl rfl (pure_move rfl) rfl ?_; refine TL.runG rfl rfl (pure_neq_bool Tryd.underlying4 rfl rfl) rfl ?_; refine TL.run1 (pure_pick_false rfl rfl) rfl ?_; refine TL.run1 (pure_move rfl) rfl ?_; refine TL.splitP 35 rfl (fun hg35 => ?_) (fun hg35 => ?_)
        · try dsimp only at hg35
          (iterate 6 refine TL.passG rfl rfl rfl rfl ?_); refine TL.run1 (pure_pick_true rfl rfl) rfl ?_; refine TL.cutEnd (by repeat (first | exact Same.refl _ _ | refine Same.put rfl ?_)) rfl ?_
          have hE := errU_dec c
          have hN := @errU_not c
          cases hok : okS c <;> simp_all
        · try dsimp only at hg35
          refine TL.runG rfl rfl (pure_move rfl) rfl ?_; refine TL.runG rfl rfl (pure_not rfl) rfl ?_; refine TL.runG rfl rfl (pure_move rfl) rfl ?_; refine TL.split 38 rfl (fun hg38 => ?_) (fun hg38 => ?_)
          · try dsimp only at hg38
            refine TL.runG rfl rfl (pure_move rfl) rfl ?_; refine TL.runG rfl rfl (pure_neq rfl rfl) rfl ?_; refine TL.runG rfl rfl (pure_pick_true rfl rfl) rfl ?_; refine TL.run1 (pure_pick_false rfl rfl) rfl ?_; refine TL.cutEnd (by repeat (first | exact Same.refl _ _ | refine Same.put rfl ?_)) rfl ?_
            have hE := errU_dec c
            have hN := @errU_not c
            cases hok : okS c <;> simp_all
          · try dsimp only at hg38
            (iterate 2 refine TL.passG rfl rfl rfl rfl ?_); refine TL.runG rfl rfl (pure_pick_false rfl rfl) rfl ?_; refine TL.run1 (pure_pick_false rfl rfl) rfl ?_; refine TL.cutEnd (by repeat (first | exact Same.refl _ _ | refine Same.put rfl ?_)) rfl ?_
            have hE := errU_dec c
            have hN := @errU_not c
            cases hok : okS c <;> simp_all
  refine TC.condD rfl (fun hc42 => ?_) (fun hc42 => ?_)
  · try dsimp only at hc42
    all_goals exact hc42.elim
  · try dsimp only at hc42
    refine TC.skip' ?_; (iterate 2 refine TC.seq ?_); refine TC.region ?_; refine TL.run1 (pure_assign rfl) rfl ?_; refine TL.nil' ?_; refine TC.block ?_; refine TC.loopX (X := Nat) (fun i => [(3, .sl 2 (brkV c)), (5, .sl 2 (brkV c)), (7, .v (.int .i64 i))]) (fun i => []) (fun i => (i ≤ (brkV c).length)) (fun i => (brkV c).length - i) (0) ⟨by skip; repeat (first | exact Agree.nil | refine Agree.cons rfl ?_), by skip; repeat (first | exact List.nil_sublist _ | exact List.Sublist.refl _ | apply List.Sublist.cons_cons | apply List.Sublist.cons)⟩ ?_ ?_
    · skip
      exact Nat.zero_le _
    intro i
    intro h1
    show TC _ _ _ (Env.of [(3, .sl 2 (brkV c)), (5, .sl 2 (brkV c)), (7, .v (.int .i64 i))]) []
    (iterate 2 refine TC.seq ?_); refine TC.region ?_; (iterate 2 refine TL.run1 (pure_move rfl) rfl ?_); refine TL.run1 (pure_len Ty.sl39 rfl) rfl ?_; refine TL.run1 (pure_lss rfl rfl) rfl ?_; refine TL.nil' ?_; refine TC.condD rfl (fun hc46 => ?_) (fun hc46 => ?_)
    · try dsimp only at hc46
      refine TC.skip' ?_; refine TC.seq ?_; refine TC.block ?_
      obtain ⟨x, y, hrow0⟩ := brkV_get c i (by omega)
      have hrow : (brkV c)[((i : Nat) : Int).toNat]? = some [.v (.int .i64 x), .v (.int .i64 y)] := hrow0
      clear hrow0
      refine TC.drawCut [49, 50, 51, 52, 53, 54, 55, 56, 57, 58, 59, 60, 61, 62, 63, 64, 65, 66, 67, 68, 69, 70, 71, 72] 72 (False) Ty.follows (by kernel_rfl) ?_ ?_
      · skip
        (iterate 2 refine TD.run1 (pure_move rfl) rfl ?_); refine TD.run1 (pure_indexAddr Ty.sl39 rfl rfl (by omega) (by assumption) (List.cons_ne_nil _ _)) rfl ?_; refine TD.run1 (pure_fieldAddr Ty.f46_0 rfl (.zero _) (List.cons_ne_nil _ _)) rfl ?_; refine TD.run1 (pure_load1 Ty.one3 rfl) rfl ?_; (iterate 2 refine TD.run1 (pure_move rfl) rfl ?_); refine TD.run1 (pure_indexAddr Ty.sl42 rfl rfl (by omega) (by assumption) (List.cons_ne_nil _ _)) rfl ?_; refine TD.run1 (pure_fieldAddr Ty.f47_0 rfl (.zero _) (List.cons_ne_nil _ _)) rfl ?_; refine TD.run1 (pure_load1 Ty.one3 rfl) rfl ?_; refine TD.run1 (pure_neq rfl rfl) rfl ?_; refine TD.run1 (pure_move rfl) rfl ?_; refine TD.splitP 60 rfl (fun hg60 => ?_) (fun hg60 => ?_)
        · try dsimp only at hg60
          (iterate 11 refine TD.passG rfl rfl rfl rfl ?_); refine TD.run1 (pure_pick_true rfl rfl) rfl ?_; refine TD.cutEnd (by repeat (first | exact Same.refl _ _ | refine Same.put rfl ?_)) rfl ?_
          first | (simp; done) | (simp_all; done) | grind
        · try dsimp only at hg60
          (iterate 2 refine TD.runG rfl rfl (pure_move rfl) rfl ?_); refine TD.runG rfl rfl (pure_indexAddr Ty.sl39 rfl rfl (by omega) (by assumption) (List.cons_ne_nil _ _)) rfl ?_; refine TD.runG rfl rfl (pure_fieldAddr Ty.f46_1 rfl (.succ (.zero _)) (List.cons_ne_nil _ _)) rfl ?_; refine TD.runG rfl rfl (pure_load1 Ty.one3 rfl) rfl ?_; (iterate 2 refine TD.runG rfl rfl (pure_move rfl) rfl ?_); refine TD.runG rfl rfl (pure_indexAddr Ty.sl42 rfl rfl (by omega) (by assumption) (List.cons_ne_nil _ _)) rfl ?_; refine TD.runG rfl rfl (pure_fieldAddr Ty.f47_1 rfl (.succ (.zero _)) (List.cons_ne_nil _ _)) rfl ?_; refine TD.runG rfl rfl (pure_load1 Ty.one3 rfl) rfl ?_; refine TD.runG rfl rfl (pure_neq rfl rfl) rfl ?_; refine TD.run1 (pure_pick_false rfl rfl) rfl ?_; refine TD.cutEnd (by repeat (first | exact Same.refl _ _ | refine Same.put rfl ?_)) rfl ?_
          first | (simp; done) | (simp_all; done) | grind
      refine TC.condD rfl (fun hc72 => ?_) (fun hc72 => ?_)
      · try dsimp only at hc72
        all_goals exact hc72.elim
      · try dsimp only at hc72
        refine TC.skip ?_; refine block_normal ?_; refine then_normal ?_; refine TC.region ?_; refine TL.run1 (pure_move rfl) rfl ?_; refine TL.run1 (pure_add rfl rfl (mkI64 (by omega) (by omega))) rfl ?_; refine TL.run1 (pure_assign rfl) rfl ?_; refine TL.nil ?_; refine loop_next (i + 1) ⟨by ((try dsimp only); rw [show (((i + 1 : Nat)) : Int) = (i : Int) + 1 by omega]; repeat (first | exact Agree.nil | refine Agree.cons rfl ?_)), by repeat (first | exact List.nil_sublist _ | exact List.Sublist.refl _ | apply List.Sublist.cons_cons | apply List.Sublist.cons)⟩ (show i + 1 ≤ _ by omega) (by omega)
    · try dsimp only at hc46
      refine TC.exit ?_; refine then_exit ?_; refine loop_exit ?_; refine block_here ?_; refine then_normal ?_; refine TC.seq ?_; refine TC.region ?_; refine TL.run1 (pure_assign rfl) rfl ?_; refine TL.nil' ?_; refine TC.ret ?_
      exact ret_bool rfl (by simp)
end Go.Ob
