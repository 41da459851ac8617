import Derived.Test.YtkedjbommcfhiaaDoorN4
set_option linter.unusedVariables false
set_option linter.unusedSimpArgs false
namespace Go.Ob
open Go.Proofs
def sW : ByteArray := ⟨#[240, 159, 145, 169]⟩
def sU : ByteArray := ⟨#[240, 159, 143, 189, 226, 128, 141, 240, 159, 154, 128]⟩
def sF : ByteArray := ⟨#[240, 159, 135, 169]⟩
def sL : ByteArray := ⟨#[225, 132, 128]⟩
def sC : ByteArray := ⟨#[234, 176, 128]⟩
def sV : ByteArray := ⟨#[225, 133, 161]⟩
def sT : ByteArray := ⟨#[225, 134, 168]⟩
def sX : ByteArray := ⟨#[120]⟩
def sM : ByteArray := ⟨#[204, 129]⟩
theorem runW : Run sW [128105] := ⟨by decide +kernel, by decide +kernel⟩
theorem runU : Run sU [127997, 8205, 128640] := ⟨by decide +kernel, by decide +kernel⟩
theorem runF : Run sF [127465] := ⟨by decide +kernel, by decide +kernel⟩
theorem runL : Run sL [4352] := ⟨by decide +kernel, by decide +kernel⟩
theorem runC : Run sC [44032] := ⟨by decide +kernel, by decide +kernel⟩
theorem runV : Run sV [4449] := ⟨by decide +kernel, by decide +kernel⟩
theorem runT : Run sT [4520] := ⟨by decide +kernel, by decide +kernel⟩
theorem runX : Run sX [120] := ⟨by decide +kernel, by decide +kernel⟩
theorem runM : Run sM [769] := ⟨by decide +kernel, by decide +kernel⟩
theorem cl128105 : classP 128105 = 14 := by decide +kernel
theorem cl127997 : classP 127997 = 4 := by decide +kernel
theorem cl8205 : classP 8205 = 5 := by decide +kernel
theorem cl128640 : classP 128640 = 14 := by decide +kernel
theorem cl127465 : classP 127465 = 13 := by decide +kernel
theorem cl4352 : classP 4352 = 8 := by decide +kernel
theorem cl44032 : classP 44032 = 11 := by decide +kernel
theorem cl4449 : classP 4449 = 9 := by decide +kernel
theorem cl4520 : classP 4520 = 10 := by decide +kernel
theorem cl120 : classP 120 = 0 := by decide +kernel
theorem cl769 : classP 769 = 4 := by decide +kernel
theorem fam_spec (k : Nat) (hk : k ≤ 40) : Fun Tryd.prog 21 [.v (.string (sW ++ repS sU k))] (.tup [.v (.int .i64 1), .v (.int .i64 0)]) := by
  have h := Count_spec (sW ++ repS sU k) (by simp only [size_app, repS_size]; have z1 : sW.size = 4 := rfl; have z2 : sU.size = 11 := rfl; have z3 : sF.size = 4 := rfl; have z4 : sL.size = 3 := rfl; have z5 : sC.size = 3 := rfl; have z6 : sV.size = 3 := rfl; have z7 : sT.size = 3 := rfl; have z8 : sX.size = 1 := rfl; have z9 : sM.size = 2 := rfl; simp only [z1, z2, z3, z4, z5, z6, z7, z8, z9]; omega)
  have hc := count_run (runW.append (runU.rep k))
  rw [hc.1, hc.2] at h
  simp only [List.map_append, repL_map, List.map_cons, List.map_nil, cl128105, cl127997, cl8205, cl128640, cl127465, cl4352, cl44032, cl4449, cl4520, cl120, cl769, repL_one, List.map_replicate] at h
  rw [show [14] ++ repL [4, 5, 14] k = 14 :: repL [4, 5, 14] k from rfl, family_one] at h
  exact h
theorem flag_spec (k : Nat) (h0 : 0 < k) (hk : k ≤ 40) : Fun Tryd.prog 21 [.v (.string (repS sF k))] (.tup [.v (.int .i64 (((k : Int) + 1) / 2)), .v (.int .i64 0)]) := by
  have h := Count_spec (repS sF k) (by simp only [size_app, repS_size]; have z1 : sW.size = 4 := rfl; have z2 : sU.size = 11 := rfl; have z3 : sF.size = 4 := rfl; have z4 : sL.size = 3 := rfl; have z5 : sC.size = 3 := rfl; have z6 : sV.size = 3 := rfl; have z7 : sT.size = 3 := rfl; have z8 : sX.size = 1 := rfl; have z9 : sM.size = 2 := rfl; simp only [z1, z2, z3, z4, z5, z6, z7, z8, z9]; omega)
  have hc := count_run (runF.rep k)
  rw [hc.1, hc.2] at h
  simp only [List.map_append, repL_map, List.map_cons, List.map_nil, cl128105, cl127997, cl8205, cl128640, cl127465, cl4352, cl44032, cl4449, cl4520, cl120, cl769, repL_one, List.map_replicate] at h
  rw [flags_count k h0, show (((k + 1) / 2 : Nat) : Int) = ((k : Int) + 1) / 2 by omega] at h
  exact h
theorem hang_spec (k q : Nat) (hk : k ≤ 40) (hq : q ≤ 40) : Fun Tryd.prog 21 [.v (.string (repS sL q ++ sC ++ repS sV q ++ repS sT k))] (.tup [.v (.int .i64 1), .v (.int .i64 0)]) := by
  have h := Count_spec (repS sL q ++ sC ++ repS sV q ++ repS sT k) (by simp only [size_app, repS_size]; have z1 : sW.size = 4 := rfl; have z2 : sU.size = 11 := rfl; have z3 : sF.size = 4 := rfl; have z4 : sL.size = 3 := rfl; have z5 : sC.size = 3 := rfl; have z6 : sV.size = 3 := rfl; have z7 : sT.size = 3 := rfl; have z8 : sX.size = 1 := rfl; have z9 : sM.size = 2 := rfl; simp only [z1, z2, z3, z4, z5, z6, z7, z8, z9]; omega)
  have hc := count_run ((((runL.rep q).append runC).append (runV.rep q)).append (runT.rep k))
  rw [hc.1, hc.2] at h
  simp only [List.map_append, repL_map, List.map_cons, List.map_nil, cl128105, cl127997, cl8205, cl128640, cl127465, cl4352, cl44032, cl4449, cl4520, cl120, cl769, repL_one, List.map_replicate] at h
  rw [hangul_one] at h
  exact h
theorem mark_spec (q : Nat) (hq : q ≤ 40) : Fun Tryd.prog 21 [.v (.string (sX ++ repS sM q))] (.tup [.v (.int .i64 1), .v (.int .i64 0)]) := by
  have h := Count_spec (sX ++ repS sM q) (by simp only [size_app, repS_size]; have z1 : sW.size = 4 := rfl; have z2 : sU.size = 11 := rfl; have z3 : sF.size = 4 := rfl; have z4 : sL.size = 3 := rfl; have z5 : sC.size = 3 := rfl; have z6 : sV.size = 3 := rfl; have z7 : sT.size = 3 := rfl; have z8 : sX.size = 1 := rfl; have z9 : sM.size = 2 := rfl; simp only [z1, z2, z3, z4, z5, z6, z7, z8, z9]; omega)
  have hc := count_run (runX.append (runM.rep q))
  rw [hc.1, hc.2] at h
  simp only [List.map_append, repL_map, List.map_cons, List.map_nil, cl128105, cl127997, cl8205, cl128640, cl127465, cl4352, cl44032, cl4449, cl4520, cl120, cl769, repL_one, List.map_replicate] at h
  rw [show [0] ++ List.replicate q 4 = (0 :: List.replicate q 4 : List Int) from rfl, marks_one] at h
  exact h
set_option maxRecDepth 100000 in
theorem repeat_spec (s : ByteArray) (n : Nat) (hs : s.size ≤ 100) (hn : n ≤ 100) : Fun Tryd.prog 23 [.v (.string s), .v (.int .i64 n)] (.v (.string (repS s n))) := by
  refine Fun.enter (n := 16) (rs := [.tmp 4]) Tryd.func23 rfl Tryd.ntmps23 Tryd.results23 rfl (fun w F => ?_)
  refine TC.seq ?_
  refine TC.region ?_
  refine TL.run1 (pure_assign rfl) rfl ?_
  refine TL.nil' ?_
  refine TC.seq ?_
  refine TC.region ?_
  refine TL.run1 (pure_assign rfl) rfl ?_
  refine TL.nil' ?_
  refine TC.seq ?_
  refine TC.seq ?_
  refine TC.region ?_
  refine TL.run1 (pure_assign rfl) rfl ?_
  refine TL.nil' ?_
  refine TC.block ?_
  refine TC.loopX (X := Nat) (fun i => [(0, .v (.string s)), (1, .v (.int .i64 n)), (5, .v (.string (repS s i))), (6, .v (.int .i64 i))]) (fun i => []) (fun i => (i ≤ n)) (fun i => n - i) (0) ⟨by skip; repeat (first | exact Agree.nil | refine Agree.cons rfl ?_), by skip; repeat (first | exact List.nil_sublist _ | exact List.Sublist.refl _ | apply List.Sublist.cons_cons | apply List.Sublist.cons)⟩ ?_ ?_
  · skip
    exact Nat.zero_le _
  intro i
  intro h1
  show TC _ _ _ (Env.of [(0, .v (.string s)), (1, .v (.int .i64 n)), (5, .v (.string (repS s i))), (6, .v (.int .i64 i))]) []
  refine TC.seq ?_
  refine TC.seq ?_
  refine TC.region ?_
  refine TL.run1 (pure_move rfl) rfl ?_
  refine TL.run1 (pure_move rfl) rfl ?_
  refine TL.run1 (pure_lss rfl rfl) rfl ?_
  refine TL.nil' ?_
  first | refine TC.condD rfl (fun hc9 => ?_) (fun hc9 => ?_) | refine TC.condN rfl (fun hc9 => ?_) (fun hc9 => ?_) | refine TC.cond rfl (fun hc9 => ?_) (fun hc9 => ?_)
  · try dsimp only at hc9
    refine TC.skip' ?_
    refine TC.seq ?_
    refine TC.block ?_
    have hz : (repS s i).size ≤ 100 * 100 := by rw [repS_size]; exact Nat.mul_le_mul (by omega) hs
    refine TC.region ?_
    refine TL.run1 (pure_move rfl) rfl ?_
    refine TL.run1 (pure_move rfl) rfl ?_
    refine TL.run1 (pure_add_string rfl rfl (by omega)) rfl ?_
    refine TL.run1 (pure_assign rfl) rfl ?_
    refine TL.nil ?_
    refine block_normal ?_
    refine then_normal ?_
    refine TC.region ?_
    refine TL.run1 (pure_move rfl) rfl ?_
    refine TL.run1 (pure_add rfl rfl (mkI64 (by omega) (by omega))) rfl ?_
    refine TL.run1 (pure_assign rfl) rfl ?_
    refine TL.nil ?_
    refine loop_next (i + 1) ⟨by ((try dsimp only); rw [show (((i + 1 : Nat)) : Int) = (i : Int) + 1 by omega]; repeat (first | exact Agree.nil | refine Agree.cons rfl ?_)), by repeat (first | exact List.nil_sublist _ | exact List.Sublist.refl _ | apply List.Sublist.cons_cons | apply List.Sublist.cons)⟩ (show i + 1 ≤ n by omega) (by omega)
  · try dsimp only at hc9
    refine TC.exit ?_
    refine then_exit ?_
    refine loop_exit ?_
    refine block_here ?_
    refine then_normal ?_
    refine TC.seq ?_
    refine TC.region ?_
    refine TL.run1 (pure_move rfl) rfl ?_
    refine TL.run1 (pure_assign rfl) rfl ?_
    refine TL.nil' ?_
    refine TC.ret ?_
    exact ret_str rfl (by rw [show i = n by omega])
set_option maxRecDepth 100000 in
theorem GraphemeSequences_spec (x y : Int) (hx0 : 0 ≤ x) (hx1 : x < 256) (hy0 : 0 ≤ y) (hy1 : y < 256) : Fun Tryd.prog 7 [.v (.int .u8 x), .v (.int .u8 y)] (.v (.bool true)) := by
  refine Fun.enter (n := 97) (rs := [.tmp 4]) Tryd.func7 rfl Tryd.ntmps7 Tryd.results7 rfl (fun w F => ?_)
  refine TC.seq ?_
  refine TC.region ?_
  refine TL.run1 (pure_assign rfl) rfl ?_
  refine TL.nil' ?_
  refine TC.seq ?_
  refine TC.region ?_
  refine TL.run1 (pure_move rfl) rfl ?_
  refine TL.run1 (pure_remK rfl rfl (by omega) (by omega)) rfl ?_
  refine TL.run1 (pure_conv Tryd.underlying5 Tryd.underlying3 rfl (fit_i64 (by omega) (by omega))) rfl ?_
  refine TL.run1 (pure_add rfl rfl (mkI64 (by omega) (by omega))) rfl ?_
  refine TL.run1 (pure_move rfl) rfl ?_
  refine TL.run1 (pure_remK rfl rfl (by omega) (by omega)) rfl ?_
  refine TL.run1 (pure_conv Tryd.underlying5 Tryd.underlying3 rfl (fit_i64 (by omega) (by omega))) rfl ?_
  refine TL.run1 (pure_assign rfl) rfl ?_
  refine TL.run1 (pure_assign rfl) rfl ?_
  refine TL.nil' ?_
  refine TC.seq ?_
  obtain ⟨k, hkd⟩ : ∃ k : Nat, 1 + x % 40 = k := ⟨(1 + x % 40).toNat, by omega⟩
  obtain ⟨q, hqd⟩ : ∃ q : Nat, y % 40 = q := ⟨(y % 40).toNat, by omega⟩
  rw [hkd, hqd]
  have hk0 : 0 < k := by omega
  have hk : k ≤ 40 := by omega
  have hq : q ≤ 40 := by omega
  have z1 : sW.size = 4 := rfl
  have z5 : sC.size = 3 := rfl
  have z8 : sX.size = 1 := rfl
  have zUk := repS_size sU k
  rw [show sU.size = 11 from rfl] at zUk
  have zFk := repS_size sF k
  rw [show sF.size = 4 from rfl] at zFk
  have zLq := repS_size sL q
  rw [show sL.size = 3 from rfl] at zLq
  have zVq := repS_size sV q
  rw [show sV.size = 3 from rfl] at zVq
  have zTk := repS_size sT k
  rw [show sT.size = 3 from rfl] at zTk
  have zMq := repS_size sM q
  rw [show sM.size = 2 from rfl] at zMq
  refine TC.region ?_
  refine TL.run1 (pure_move rfl) rfl ?_
  refine TL.run1 (pure_call (repeat_spec sU k (by decide) (by omega)) (.cons rfl (.cons rfl .nil)) Tryd.call23) rfl ?_
  refine TL.run1 (pure_add_string (a := sW) (b := repS sU k) rfl rfl (by (try simp only [size_app]); omega)) rfl ?_
  refine TL.run1 (pure_assign rfl) rfl ?_
  refine TL.nil' ?_
  refine TC.seq ?_
  refine TC.region ?_
  refine TL.run1 (pure_move rfl) rfl ?_
  refine TL.run1 (pure_call (repeat_spec sF k (by decide) (by omega)) (.cons rfl (.cons rfl .nil)) Tryd.call23) rfl ?_
  refine TL.run1 (pure_assign rfl) rfl ?_
  refine TL.nil' ?_
  refine TC.seq ?_
  refine TC.region ?_
  refine TL.run1 (pure_move rfl) rfl ?_
  refine TL.run1 (pure_call (repeat_spec sL q (by decide) (by omega)) (.cons rfl (.cons rfl .nil)) Tryd.call23) rfl ?_
  refine TL.run1 (pure_add_string (a := repS sL q) (b := sC) rfl rfl (by (try simp only [size_app]); omega)) rfl ?_
  refine TL.run1 (pure_move rfl) rfl ?_
  refine TL.run1 (pure_call (repeat_spec sV q (by decide) (by omega)) (.cons rfl (.cons rfl .nil)) Tryd.call23) rfl ?_
  refine TL.run1 (pure_add_string (a := repS sL q ++ sC) (b := repS sV q) rfl rfl (by (try simp only [size_app]); omega)) rfl ?_
  refine TL.run1 (pure_move rfl) rfl ?_
  refine TL.run1 (pure_call (repeat_spec sT k (by decide) (by omega)) (.cons rfl (.cons rfl .nil)) Tryd.call23) rfl ?_
  refine TL.run1 (pure_add_string (a := repS sL q ++ sC ++ repS sV q) (b := repS sT k) rfl rfl (by (try simp only [size_app]); omega)) rfl ?_
  refine TL.run1 (pure_assign rfl) rfl ?_
  refine TL.nil' ?_
  refine TC.seq ?_
  refine TC.region ?_
  refine TL.run1 (pure_move rfl) rfl ?_
  refine TL.run1 (pure_call (fam_spec k hk) (.cons rfl .nil) Tryd.call21) rfl ?_
  refine TL.run1 (pure_move rfl) rfl ?_
  refine TL.run1 (pure_extract rfl rfl) rfl ?_
  refine TL.run1 (pure_extract rfl rfl) rfl ?_
  refine TL.run1 (pure_assign rfl) rfl ?_
  refine TL.run1 (pure_assign rfl) rfl ?_
  refine TL.nil' ?_
  refine TC.seq ?_
  refine TC.region ?_
  refine TL.run1 (pure_move rfl) rfl ?_
  refine TL.run1 (pure_call (flag_spec k hk0 hk) (.cons rfl .nil) Tryd.call21) rfl ?_
  refine TL.run1 (pure_move rfl) rfl ?_
  refine TL.run1 (pure_extract rfl rfl) rfl ?_
  refine TL.run1 (pure_extract rfl rfl) rfl ?_
  refine TL.run1 (pure_assign rfl) rfl ?_
  refine TL.run1 (pure_assign rfl) rfl ?_
  refine TL.nil' ?_
  refine TC.seq ?_
  refine TC.region ?_
  refine TL.run1 (pure_move rfl) rfl ?_
  refine TL.run1 (pure_call (hang_spec k q hk hq) (.cons rfl .nil) Tryd.call21) rfl ?_
  refine TL.run1 (pure_move rfl) rfl ?_
  refine TL.run1 (pure_extract rfl rfl) rfl ?_
  refine TL.run1 (pure_extract rfl rfl) rfl ?_
  refine TL.run1 (pure_assign rfl) rfl ?_
  refine TL.run1 (pure_assign rfl) rfl ?_
  refine TL.nil' ?_
  refine TC.seq ?_
  refine TC.region ?_
  refine TL.run1 (pure_move rfl) rfl ?_
  refine TL.run1 (pure_call (repeat_spec sM q (by decide) (by omega)) (.cons rfl (.cons rfl .nil)) Tryd.call23) rfl ?_
  refine TL.run1 (pure_add_string (a := sX) (b := repS sM q) rfl rfl (by (try simp only [size_app]); omega)) rfl ?_
  refine TL.run1 (pure_call (mark_spec q hq) (.cons rfl .nil) Tryd.call21) rfl ?_
  refine TL.run1 (pure_move rfl) rfl ?_
  refine TL.run1 (pure_extract rfl rfl) rfl ?_
  refine TL.run1 (pure_extract rfl rfl) rfl ?_
  refine TL.run1 (pure_assign rfl) rfl ?_
  refine TL.run1 (pure_assign rfl) rfl ?_
  refine TL.nil' ?_
  refine TC.regionCut [61, 62, 63, 64, 65, 66, 67, 68, 69, 70, 71, 72, 73, 74, 75, 76, 77, 78, 79, 80, 81, 82, 83, 84, 85, 86, 87, 88, 89, 90, 91, 92, 93, 94, 95, 96, 4] 4 (True) ?_ ?_
  · skip
    refine TL.run1 (pure_call (known_spec) .nil Tryd.call12) rfl ?_
    refine TL.run1 (pure_move rfl) rfl ?_
    first | refine TL.splitP 62 rfl (fun hg62 => ?_) (fun hg62 => ?_) | refine TL.split 62 rfl (fun hg62 => ?_) (fun hg62 => ?_)
    · try dsimp only at hg62
      refine TL.runG rfl rfl (pure_move rfl) rfl ?_
      refine TL.runG rfl rfl (pure_eql rfl rfl) rfl ?_
      refine TL.run1 (pure_pick_true rfl rfl) rfl ?_
      refine TL.run1 (pure_move rfl) rfl ?_
      first | refine TL.splitP 66 rfl (fun hg66 => ?_) (fun hg66 => ?_) | refine TL.split 66 rfl (fun hg66 => ?_) (fun hg66 => ?_)
      · try dsimp only at hg66
        refine TL.runG rfl rfl (pure_move rfl) rfl ?_
        refine TL.runG rfl rfl (pure_eql rfl rfl) rfl ?_
        refine TL.run1 (pure_pick_true rfl rfl) rfl ?_
        refine TL.run1 (pure_move rfl) rfl ?_
        first | refine TL.splitP 70 rfl (fun hg70 => ?_) (fun hg70 => ?_) | refine TL.split 70 rfl (fun hg70 => ?_) (fun hg70 => ?_)
        · try dsimp only at hg70
          refine TL.runG rfl rfl (pure_move rfl) rfl ?_
          refine TL.runG rfl rfl (pure_eql rfl rfl) rfl ?_
          refine TL.run1 (pure_pick_true rfl rfl) rfl ?_
          refine TL.run1 (pure_move rfl) rfl ?_
          first | refine TL.splitP 74 rfl (fun hg74 => ?_) (fun hg74 => ?_) | refine TL.split 74 rfl (fun hg74 => ?_) (fun hg74 => ?_)
          · try dsimp only at hg74
            refine TL.runG rfl rfl (pure_move rfl) rfl ?_
            refine TL.runG rfl rfl (pure_move rfl) rfl ?_
            refine TL.runG rfl rfl (pure_add rfl rfl (mkI64 (by omega) (by omega))) rfl ?_
            refine TL.runG rfl rfl (pure_quo rfl rfl (by omega) (by omega) (by omega)) rfl ?_
            refine TL.runG rfl rfl (pure_eql rfl rfl) rfl ?_
            refine TL.run1 (pure_pick_true rfl rfl) rfl ?_
            refine TL.run1 (pure_move rfl) rfl ?_
            first | refine TL.splitP 81 rfl (fun hg81 => ?_) (fun hg81 => ?_) | refine TL.split 81 rfl (fun hg81 => ?_) (fun hg81 => ?_)
            · try dsimp only at hg81
              refine TL.runG rfl rfl (pure_move rfl) rfl ?_
              refine TL.runG rfl rfl (pure_eql rfl rfl) rfl ?_
              refine TL.run1 (pure_pick_true rfl rfl) rfl ?_
              refine TL.run1 (pure_move rfl) rfl ?_
              first | refine TL.splitP 85 rfl (fun hg85 => ?_) (fun hg85 => ?_) | refine TL.split 85 rfl (fun hg85 => ?_) (fun hg85 => ?_)
              · try dsimp only at hg85
                refine TL.runG rfl rfl (pure_move rfl) rfl ?_
                refine TL.runG rfl rfl (pure_eql rfl rfl) rfl ?_
                refine TL.run1 (pure_pick_true rfl rfl) rfl ?_
                refine TL.run1 (pure_move rfl) rfl ?_
                first | refine TL.splitP 89 rfl (fun hg89 => ?_) (fun hg89 => ?_) | refine TL.split 89 rfl (fun hg89 => ?_) (fun hg89 => ?_)
                · try dsimp only at hg89
                  refine TL.runG rfl rfl (pure_move rfl) rfl ?_
                  refine TL.runG rfl rfl (pure_eql rfl rfl) rfl ?_
                  refine TL.run1 (pure_pick_true rfl rfl) rfl ?_
                  refine TL.run1 (pure_move rfl) rfl ?_
                  first | refine TL.splitP 93 rfl (fun hg93 => ?_) (fun hg93 => ?_) | refine TL.split 93 rfl (fun hg93 => ?_) (fun hg93 => ?_)
                  · try dsimp only at hg93
                    refine TL.runG rfl rfl (pure_move rfl) rfl ?_
                    refine TL.runG rfl rfl (pure_eql rfl rfl) rfl ?_
                    refine TL.run1 (pure_pick_true rfl rfl) rfl ?_
                    refine TL.run1 (pure_assign rfl) rfl ?_
                    refine TL.cutEnd (by repeat (first | exact Same.refl _ _ | refine Same.put rfl ?_)) rfl ?_
                    first | rfl | (simp_all [encI, encT]; done) | (simp_all; omega) | grind
                  · try dsimp only at hg93
                    refine TL.passG rfl rfl rfl rfl ?_
                    refine TL.passG rfl rfl rfl rfl ?_
                    refine TL.run1 (pure_pick_false rfl rfl) rfl ?_
                    refine TL.run1 (pure_assign rfl) rfl ?_
                    refine TL.cutEnd (by repeat (first | exact Same.refl _ _ | refine Same.put rfl ?_)) rfl ?_
                    first | rfl | (simp_all [encI, encT]; done) | (simp_all; omega) | grind
                · try dsimp only at hg89
                  refine TL.passG rfl rfl rfl rfl ?_
                  refine TL.passG rfl rfl rfl rfl ?_
                  refine TL.run1 (pure_pick_false rfl rfl) rfl ?_
                  refine TL.run1 (pure_move rfl) rfl ?_
                  refine TL.passG rfl rfl rfl rfl ?_
                  refine TL.passG rfl rfl rfl rfl ?_
                  refine TL.run1 (pure_pick_false rfl rfl) rfl ?_
                  refine TL.run1 (pure_assign rfl) rfl ?_
                  refine TL.cutEnd (by repeat (first | exact Same.refl _ _ | refine Same.put rfl ?_)) rfl ?_
                  first | rfl | (simp_all [encI, encT]; done) | (simp_all; omega) | grind
              · try dsimp only at hg85
                refine TL.passG rfl rfl rfl rfl ?_
                refine TL.passG rfl rfl rfl rfl ?_
                refine TL.run1 (pure_pick_false rfl rfl) rfl ?_
                refine TL.run1 (pure_move rfl) rfl ?_
                refine TL.passG rfl rfl rfl rfl ?_
                refine TL.passG rfl rfl rfl rfl ?_
                refine TL.run1 (pure_pick_false rfl rfl) rfl ?_
                refine TL.run1 (pure_move rfl) rfl ?_
                refine TL.passG rfl rfl rfl rfl ?_
                refine TL.passG rfl rfl rfl rfl ?_
                refine TL.run1 (pure_pick_false rfl rfl) rfl ?_
                refine TL.run1 (pure_assign rfl) rfl ?_
                refine TL.cutEnd (by repeat (first | exact Same.refl _ _ | refine Same.put rfl ?_)) rfl ?_
                first | rfl | (simp_all [encI, encT]; done) | (simp_all; omega) | grind
            · try dsimp only at hg81
              refine TL.passG rfl rfl rfl rfl ?_
              refine TL.passG rfl rfl rfl rfl ?_
              refine TL.run1 (pure_pick_false rfl rfl) rfl ?_
              refine TL.run1 (pure_move rfl) rfl ?_
              refine TL.passG rfl rfl rfl rfl ?_
              refine TL.passG rfl rfl rfl rfl ?_
              refine TL.run1 (pure_pick_false rfl rfl) rfl ?_
              refine TL.run1 (pure_move rfl) rfl ?_
              refine TL.passG rfl rfl rfl rfl ?_
              refine TL.passG rfl rfl rfl rfl ?_
              refine TL.run1 (pure_pick_false rfl rfl) rfl ?_
              refine TL.run1 (pure_move rfl) rfl ?_
              refine TL.passG rfl rfl rfl rfl ?_
              refine TL.passG rfl rfl rfl rfl ?_
              refine TL.run1 (pure_pick_false rfl rfl) rfl ?_
              refine TL.run1 (pure_assign rfl) rfl ?_
              refine TL.cutEnd (by repeat (first | exact Same.refl _ _ | refine Same.put rfl ?_)) rfl ?_
              first | rfl | (simp_all [encI, encT]; done) | (simp_all; omega) | grind
          · try dsimp only at hg74
            refine TL.passG rfl rfl rfl rfl ?_
            refine TL.passG rfl rfl rfl rfl ?_
            refine TL.passG rfl rfl rfl rfl ?_
            refine TL.passG rfl rfl rfl rfl ?_
            refine TL.passG rfl rfl rfl rfl ?_
            refine TL.run1 (pure_pick_false rfl rfl) rfl ?_
            refine TL.run1 (pure_move rfl) rfl ?_
            refine TL.passG rfl rfl rfl rfl ?_
            refine TL.passG rfl rfl rfl rfl ?_
            refine TL.run1 (pure_pick_false rfl rfl) rfl ?_
            refine TL.run1 (pure_move rfl) rfl ?_
            refine TL.passG rfl rfl rfl rfl ?_
            refine TL.passG rfl rfl rfl rfl ?_
            refine TL.run1 (pure_pick_false rfl rfl) rfl ?_
            refine TL.run1 (pure_move rfl) rfl ?_
            refine TL.passG rfl rfl rfl rfl ?_
            refine TL.passG rfl rfl rfl rfl ?_
            refine TL.run1 (pure_pick_false rfl rfl) rfl ?_
            refine TL.run1 (pure_move rfl) rfl ?_
            refine TL.passG rfl rfl rfl rfl ?_
            refine TL.passG rfl rfl rfl rfl ?_
            refine TL.run1 (pure_pick_false rfl rfl) rfl ?_
            refine TL.run1 (pure_assign rfl) rfl ?_
            refine TL.cutEnd (by repeat (first | exact Same.refl _ _ | refine Same.put rfl ?_)) rfl ?_
            first | rfl | (simp_all [encI, encT]; done) | (simp_all; omega) | grind
        · try dsimp only at hg70
          refine TL.passG rfl rfl rfl rfl ?_
          refine TL.passG rfl rfl rfl rfl ?_
          refine TL.run1 (pure_pick_false rfl rfl) rfl ?_
          refine TL.run1 (pure_move rfl) rfl ?_
          refine TL.passG rfl rfl rfl rfl ?_
          refine TL.passG rfl rfl rfl rfl ?_
          refine TL.passG rfl rfl rfl rfl ?_
          refine TL.passG rfl rfl rfl rfl ?_
          refine TL.passG rfl rfl rfl rfl ?_
          refine TL.run1 (pure_pick_false rfl rfl) rfl ?_
          refine TL.run1 (pure_move rfl) rfl ?_
          refine TL.passG rfl rfl rfl rfl ?_
          refine TL.passG rfl rfl rfl rfl ?_
          refine TL.run1 (pure_pick_false rfl rfl) rfl ?_
          refine TL.run1 (pure_move rfl) rfl ?_
          refine TL.passG rfl rfl rfl rfl ?_
          refine TL.passG rfl rfl rfl rfl ?_
          refine TL.run1 (pure_pick_false rfl rfl) rfl ?_
          refine TL.run1 (pure_move rfl) rfl ?_
          refine TL.passG rfl rfl rfl rfl ?_
          refine TL.passG rfl rfl rfl rfl ?_
          refine TL.run1 (pure_pick_false rfl rfl) rfl ?_
          refine TL.run1 (pure_move rfl) rfl ?_
          refine TL.passG rfl rfl rfl rfl ?_
          refine TL.passG rfl rfl rfl rfl ?_
          refine TL.run1 (pure_pick_false rfl rfl) rfl ?_
          refine TL.run1 (pure_assign rfl) rfl ?_
          refine TL.cutEnd (by repeat (first | exact Same.refl _ _ | refine Same.put rfl ?_)) rfl ?_
          first | rfl | (simp_all [encI, encT]; done) | (simp_all; omega) | grind
      · try dsimp only at hg66
        refine TL.passG rfl rfl rfl rfl ?_
        refine TL.passG rfl rfl rfl rfl ?_
        refine TL.run1 (pure_pick_false rfl rfl) rfl ?_
        refine TL.run1 (pure_move rfl) rfl ?_
        refine TL.passG rfl rfl rfl rfl ?_
        refine TL.passG rfl rfl rfl rfl ?_
        refine TL.run1 (pure_pick_false rfl rfl) rfl ?_
        refine TL.run1 (pure_move rfl) rfl ?_
        refine TL.passG rfl rfl rfl rfl ?_
        refine TL.passG rfl rfl rfl rfl ?_
        refine TL.passG rfl rfl rfl rfl ?_
        refine TL.passG rfl rfl rfl rfl ?_
        refine TL.passG rfl rfl rfl rfl ?_
        refine TL.run1 (pure_pick_false rfl rfl) rfl ?_
        refine TL.run1 (pure_move rfl) rfl ?_
        refine TL.passG rfl rfl rfl rfl ?_
        refine TL.passG rfl rfl rfl rfl ?_
        refine TL.run1 (pure_pick_false rfl rfl) rfl ?_
        refine TL.run1 (pure_move rfl) rfl ?_
        refine TL.passG rfl rfl rfl rfl ?_
        refine TL.passG rfl rfl rfl rfl ?_
        refine TL.run1 (pure_pick_false rfl rfl) rfl ?_
        refine TL.run1 (pure_move rfl) rfl ?_
        refine TL.passG rfl rfl rfl rfl ?_
        refine TL.passG rfl rfl rfl rfl ?_
        refine TL.run1 (pure_pick_false rfl rfl) rfl ?_
        refine TL.run1 (pure_move rfl) rfl ?_
        refine TL.passG rfl rfl rfl rfl ?_
        refine TL.passG rfl rfl rfl rfl ?_
        refine TL.run1 (pure_pick_false rfl rfl) rfl ?_
        refine TL.run1 (pure_assign rfl) rfl ?_
        refine TL.cutEnd (by repeat (first | exact Same.refl _ _ | refine Same.put rfl ?_)) rfl ?_
        first | rfl | (simp_all [encI, encT]; done) | (simp_all; omega) | grind
    · try dsimp only at hg62
      refine TL.passG rfl rfl rfl rfl ?_
      refine TL.passG rfl rfl rfl rfl ?_
      refine TL.run1 (pure_pick_false rfl rfl) rfl ?_
      refine TL.run1 (pure_move rfl) rfl ?_
      refine TL.passG rfl rfl rfl rfl ?_
      refine TL.passG rfl rfl rfl rfl ?_
      refine TL.run1 (pure_pick_false rfl rfl) rfl ?_
      refine TL.run1 (pure_move rfl) rfl ?_
      refine TL.passG rfl rfl rfl rfl ?_
      refine TL.passG rfl rfl rfl rfl ?_
      refine TL.run1 (pure_pick_false rfl rfl) rfl ?_
      refine TL.run1 (pure_move rfl) rfl ?_
      refine TL.passG rfl rfl rfl rfl ?_
      refine TL.passG rfl rfl rfl rfl ?_
      refine TL.passG rfl rfl rfl rfl ?_
      refine TL.passG rfl rfl rfl rfl ?_
      refine TL.passG rfl rfl rfl rfl ?_
      refine TL.run1 (pure_pick_false rfl rfl) rfl ?_
      refine TL.run1 (pure_move rfl) rfl ?_
      refine TL.passG rfl rfl rfl rfl ?_
      refine TL.passG rfl rfl rfl rfl ?_
      refine TL.run1 (pure_pick_false rfl rfl) rfl ?_
      refine TL.run1 (pure_move rfl) rfl ?_
      refine TL.passG rfl rfl rfl rfl ?_
      refine TL.passG rfl rfl rfl rfl ?_
      refine TL.run1 (pure_pick_false rfl rfl) rfl ?_
      refine TL.run1 (pure_move rfl) rfl ?_
      refine TL.passG rfl rfl rfl rfl ?_
      refine TL.passG rfl rfl rfl rfl ?_
      refine TL.run1 (pure_pick_false rfl rfl) rfl ?_
      refine TL.run1 (pure_move rfl) rfl ?_
      refine TL.passG rfl rfl rfl rfl ?_
      refine TL.passG rfl rfl rfl rfl ?_
      refine TL.run1 (pure_pick_false rfl rfl) rfl ?_
      refine TL.run1 (pure_assign rfl) rfl ?_
      refine TL.cutEnd (by repeat (first | exact Same.refl _ _ | refine Same.put rfl ?_)) rfl ?_
      first | rfl | (simp_all [encI, encT]; done) | (simp_all; omega) | grind
  refine TC.ret ?_
  exact ret_bool rfl (by simp)
end Go.Ob
