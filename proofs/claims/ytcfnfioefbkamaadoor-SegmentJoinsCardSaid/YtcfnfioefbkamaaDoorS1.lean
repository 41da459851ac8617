import Derived.Test.YtcfnfioefbkamaaDoorK8
import Derived.Test.YtcfnfioefbkamaaDoorC1
import Derived.Test.YtcfnfioefbkamaaDoorObX
set_option linter.unusedVariables false
set_option linter.unusedSimpArgs false
namespace Go.Ob
open Go.Proofs
def lowS : List Span := [(9, 9, 2), (10, 13, 1), (29, 29, 1), (32, 32, 2), (33, 33, 9), (39, 39, 11), (40, 40, 8), (41, 41, 9), (44, 44, 10), (45, 45, 12), (46, 46, 10), (48, 57, 6), (58, 59, 9), (63, 63, 9), (65, 90, 5), (91, 91, 8), (93, 93, 9), (95, 95, 5), (97, 122, 5), (123, 123, 8), (125, 125, 9), (133, 133, 1), (160, 160, 3), (170, 170, 5), (171, 171, 8), (173, 173, 4), (181, 181, 5), (183, 183, 11), (186, 186, 5), (187, 187, 9), (192, 214, 5), (216, 246, 5), (248, 687, 5), (880, 883, 5), (886, 887, 5), (891, 893, 5), (895, 895, 5), (902, 902, 5), (904, 1153, 5), (1162, 1327, 5), (1329, 1366, 5), (1377, 1415, 5), (1488, 1514, 5), (1568, 1610, 5), (1632, 1641, 6), (1643, 1643, 10), (1649, 1747, 5), (1776, 1785, 6), (2308, 2361, 5), (2392, 2401, 5), (2406, 2415, 6), (3585, 3632, 5), (3648, 3654, 5), (3664, 3673, 6), (4256, 4351, 5), (4352, 4607, 5)]
set_option maxRecDepth 100000 in
theorem lowO_spec  : CallD Tryd.prog 73 [] [] (fun r H' => ∃ v, r = .v v ∧ H' = [.row v 105 3 (encS lowS)]) := by
  refine CallD.enter (n := 58) (rs := [.tmp 0]) Tryd.func73 rfl Tryd.ntmps73 Tryd.results73 rfl (fun w F => ?_); refine TC.seq ?_; refine TC.region ?_; refine TL.run1 (pure_assign rfl) rfl ?_; refine TL.nil' ?_; refine TC.seq ?_; refine TC.region ?_; (iterate 56 refine TL.run1 (pure_build3 Ty.pl105 Ty.zero105 rfl rfl rfl) rfl ?_); refine TL.buildRow (xs := [.tmp 1, .tmp 2, .tmp 3, .tmp 4, .tmp 5, .tmp 6, .tmp 7, .tmp 8, .tmp 9, .tmp 10, .tmp 11, .tmp 12, .tmp 13, .tmp 14, .tmp 15, .tmp 16, .tmp 17, .tmp 18, .tmp 19, .tmp 20, .tmp 21, .tmp 22, .tmp 23, .tmp 24, .tmp 25, .tmp 26, .tmp 27, .tmp 28, .tmp 29, .tmp 30, .tmp 31, .tmp 32, .tmp 33, .tmp 34, .tmp 35, .tmp 36, .tmp 37, .tmp 38, .tmp 39, .tmp 40, .tmp 41, .tmp 42, .tmp 43, .tmp 44, .tmp 45, .tmp 46, .tmp 47, .tmp 48, .tmp 49, .tmp 50, .tmp 51, .tmp 52, .tmp 53, .tmp 54, .tmp 55, .tmp 56]) Ty.app85 (by decide) rfl rfl (.cons rfl (.agg _) rfl (.cons rfl (.agg _) rfl (.cons rfl (.agg _) rfl (.cons rfl (.agg _) rfl (.cons rfl (.agg _) rfl (.cons rfl (.agg _) rfl (.cons rfl (.agg _) rfl (.cons rfl (.agg _) rfl (.cons rfl (.agg _) rfl (.cons rfl (.agg _) rfl (.cons rfl (.agg _) rfl (.cons rfl (.agg _) rfl (.cons rfl (.agg _) rfl (.cons rfl (.agg _) rfl (.cons rfl (.agg _) rfl (.cons rfl (.agg _) rfl (.cons rfl (.agg _) rfl (.cons rfl (.agg _) rfl (.cons rfl (.agg _) rfl (.cons rfl (.agg _) rfl (.cons rfl (.agg _) rfl (.cons rfl (.agg _) rfl (.cons rfl (.agg _) rfl (.cons rfl (.agg _) rfl (.cons rfl (.agg _) rfl (.cons rfl (.agg _) rfl (.cons rfl (.agg _) rfl (.cons rfl (.agg _) rfl (.cons rfl (.agg _) rfl (.cons rfl (.agg _) rfl (.cons rfl (.agg _) rfl (.cons rfl (.agg _) rfl (.cons rfl (.agg _) rfl (.cons rfl (.agg _) rfl (.cons rfl (.agg _) rfl (.cons rfl (.agg _) rfl (.cons rfl (.agg _) rfl (.cons rfl (.agg _) rfl (.cons rfl (.agg _) rfl (.cons rfl (.agg _) rfl (.cons rfl (.agg _) rfl (.cons rfl (.agg _) rfl (.cons rfl (.agg _) rfl (.cons rfl (.agg _) rfl (.cons rfl (.agg _) rfl (.cons rfl (.agg _) rfl (.cons rfl (.agg _) rfl (.cons rfl (.agg _) rfl (.cons rfl (.agg _) rfl (.cons rfl (.agg _) rfl (.cons rfl (.agg _) rfl (.cons rfl (.agg _) rfl (.cons rfl (.agg _) rfl (.cons rfl (.agg _) rfl (.cons rfl (.agg _) rfl (.cons rfl (.agg _) rfl .nil)))))))))))))))))))))))))))))))))))))))))))))))))))))))) rfl (fun v57 hv57 => ?_)
  refine TL.run1 (pure_assign rfl) rfl ?_; refine TL.nil' ?_; refine TC.ret ?_
  exact ⟨.inl rfl, [.v _], .tmp rfl .nil, _, List.Sublist.refl _, _, rfl, rfl⟩
def highS : List Span := [(5760, 5760, 2), (7680, 8191, 5), (8192, 8198, 2), (8199, 8199, 3), (8200, 8202, 2), (8208, 8208, 12), (8211, 8211, 12), (8212, 8212, 13), (8216, 8216, 8), (8217, 8217, 11), (8220, 8220, 8), (8221, 8221, 9), (8230, 8230, 9), (8232, 8233, 1), (8239, 8239, 3), (8287, 8287, 2), (8288, 8288, 3), (12288, 12288, 2), (12289, 12290, 9), (12296, 12296, 8), (12297, 12297, 9), (12298, 12298, 8), (12299, 12299, 9), (12300, 12300, 8), (12301, 12301, 9), (12302, 12302, 8), (12303, 12303, 9), (12304, 12304, 8), (12305, 12305, 9), (12308, 12308, 8), (12309, 12309, 9), (12353, 12438, 7), (12449, 12538, 7), (12549, 12591, 7), (13312, 19903, 7), (19968, 40959, 7), (44032, 55203, 5), (63744, 64255, 7), (65279, 65279, 3), (65296, 65305, 6), (127744, 128591, 7), (128640, 128767, 7), (129280, 129535, 7), (131072, 195103, 7)]
set_option maxRecDepth 100000 in
theorem high_spec  : Fun Tryd.prog 74 [] (.sl 3 (encS highS)) := by
  refine Fun.enter (n := 46) (rs := [.tmp 0]) Tryd.func74 rfl Tryd.ntmps74 Tryd.results74 rfl (fun w F => ?_); refine TC.seq ?_; refine TC.region ?_; refine TL.run1 (pure_assign rfl) rfl ?_; refine TL.nil' ?_; refine TC.seq ?_; refine TC.region ?_; (iterate 44 refine TL.run1 (pure_build3 Ty.pl105 Ty.zero105 rfl rfl rfl) rfl ?_); refine TL.run1 (pure_buildSlice (xs := [.tmp 1, .tmp 2, .tmp 3, .tmp 4, .tmp 5, .tmp 6, .tmp 7, .tmp 8, .tmp 9, .tmp 10, .tmp 11, .tmp 12, .tmp 13, .tmp 14, .tmp 15, .tmp 16, .tmp 17, .tmp 18, .tmp 19, .tmp 20, .tmp 21, .tmp 22, .tmp 23, .tmp 24, .tmp 25, .tmp 26, .tmp 27, .tmp 28, .tmp 29, .tmp 30, .tmp 31, .tmp 32, .tmp 33, .tmp 34, .tmp 35, .tmp 36, .tmp 37, .tmp 38, .tmp 39, .tmp 40, .tmp 41, .tmp 42, .tmp 43, .tmp 44]) Ty.app85 (by decide) rfl rfl (.cons rfl (.agg _) rfl (.cons rfl (.agg _) rfl (.cons rfl (.agg _) rfl (.cons rfl (.agg _) rfl (.cons rfl (.agg _) rfl (.cons rfl (.agg _) rfl (.cons rfl (.agg _) rfl (.cons rfl (.agg _) rfl (.cons rfl (.agg _) rfl (.cons rfl (.agg _) rfl (.cons rfl (.agg _) rfl (.cons rfl (.agg _) rfl (.cons rfl (.agg _) rfl (.cons rfl (.agg _) rfl (.cons rfl (.agg _) rfl (.cons rfl (.agg _) rfl (.cons rfl (.agg _) rfl (.cons rfl (.agg _) rfl (.cons rfl (.agg _) rfl (.cons rfl (.agg _) rfl (.cons rfl (.agg _) rfl (.cons rfl (.agg _) rfl (.cons rfl (.agg _) rfl (.cons rfl (.agg _) rfl (.cons rfl (.agg _) rfl (.cons rfl (.agg _) rfl (.cons rfl (.agg _) rfl (.cons rfl (.agg _) rfl (.cons rfl (.agg _) rfl (.cons rfl (.agg _) rfl (.cons rfl (.agg _) rfl (.cons rfl (.agg _) rfl (.cons rfl (.agg _) rfl (.cons rfl (.agg _) rfl (.cons rfl (.agg _) rfl (.cons rfl (.agg _) rfl (.cons rfl (.agg _) rfl (.cons rfl (.agg _) rfl (.cons rfl (.agg _) rfl (.cons rfl (.agg _) rfl (.cons rfl (.agg _) rfl (.cons rfl (.agg _) rfl (.cons rfl (.agg _) rfl (.cons rfl (.agg _) rfl .nil))))))))))))))))))))))))))))))))))))))))))))) rfl ?_; refine TL.run1 (pure_assign rfl) rfl ?_; refine TL.nil' ?_; refine TC.ret ?_
  exact ret_sl rfl rfl
def blanksS : List Span := [(10, 13, 1), (29, 29, 1), (133, 133, 1), (8232, 8233, 1), (9, 9, 2), (32, 32, 2), (5760, 5760, 2), (8192, 8198, 2), (8200, 8202, 2), (8287, 8287, 2), (12288, 12288, 2), (160, 160, 3), (8199, 8199, 3), (8239, 8239, 3), (8288, 8288, 3), (65279, 65279, 3), (173, 173, 4), (48, 57, 6), (1632, 1641, 6), (1776, 1785, 6), (2406, 2415, 6), (3664, 3673, 6), (65296, 65305, 6)]
set_option maxRecDepth 100000 in
theorem blanksO_spec  : CallD Tryd.prog 41 [] [] (fun r H' => ∃ v, r = .v v ∧ H' = [.row v 83 3 (encS blanksS)]) := by
  refine CallD.enter (n := 25) (rs := [.tmp 0]) Tryd.func41 rfl Tryd.ntmps41 Tryd.results41 rfl (fun w F => ?_); refine TC.seq ?_; refine TC.region ?_; refine TL.run1 (pure_assign rfl) rfl ?_; refine TL.nil' ?_; refine TC.seq ?_; refine TC.region ?_; (iterate 23 refine TL.run1 (pure_build3 Ty.pl83 Ty.zero83 rfl rfl rfl) rfl ?_); refine TL.buildRow (xs := [.tmp 1, .tmp 2, .tmp 3, .tmp 4, .tmp 5, .tmp 6, .tmp 7, .tmp 8, .tmp 9, .tmp 10, .tmp 11, .tmp 12, .tmp 13, .tmp 14, .tmp 15, .tmp 16, .tmp 17, .tmp 18, .tmp 19, .tmp 20, .tmp 21, .tmp 22, .tmp 23]) Ty.app80 (by decide) rfl rfl (.cons rfl (.agg _) rfl (.cons rfl (.agg _) rfl (.cons rfl (.agg _) rfl (.cons rfl (.agg _) rfl (.cons rfl (.agg _) rfl (.cons rfl (.agg _) rfl (.cons rfl (.agg _) rfl (.cons rfl (.agg _) rfl (.cons rfl (.agg _) rfl (.cons rfl (.agg _) rfl (.cons rfl (.agg _) rfl (.cons rfl (.agg _) rfl (.cons rfl (.agg _) rfl (.cons rfl (.agg _) rfl (.cons rfl (.agg _) rfl (.cons rfl (.agg _) rfl (.cons rfl (.agg _) rfl (.cons rfl (.agg _) rfl (.cons rfl (.agg _) rfl (.cons rfl (.agg _) rfl (.cons rfl (.agg _) rfl (.cons rfl (.agg _) rfl (.cons rfl (.agg _) rfl .nil))))))))))))))))))))))) rfl (fun v24 hv24 => ?_); refine TL.run1 (pure_assign rfl) rfl ?_; refine TL.nil' ?_; refine TC.ret ?_
  exact ⟨.inl rfl, [.v _], .tmp rfl .nil, _, List.Sublist.refl _, _, rfl, rfl⟩
def letS : List Span := [(65, 90, 5), (95, 95, 5), (97, 122, 5), (170, 170, 5), (181, 181, 5), (186, 186, 5), (192, 214, 5), (216, 246, 5), (248, 687, 5), (880, 883, 5), (886, 887, 5), (891, 893, 5), (895, 895, 5), (902, 902, 5), (904, 1153, 5), (1162, 1327, 5), (1329, 1366, 5), (1377, 1415, 5), (1488, 1514, 5), (1568, 1610, 5), (1649, 1747, 5), (2308, 2361, 5), (2392, 2401, 5), (3585, 3632, 5), (3648, 3654, 5), (4256, 4351, 5), (4352, 4607, 5), (7680, 8191, 5), (44032, 55203, 5), (12353, 12438, 7), (12449, 12538, 7), (12549, 12591, 7), (13312, 19903, 7), (19968, 40959, 7), (63744, 64255, 7), (127744, 128591, 7), (128640, 128767, 7), (129280, 129535, 7), (131072, 195103, 7)]
set_option maxRecDepth 100000 in
theorem let_spec  : Fun Tryd.prog 42 [] (.sl 3 (encS letS)) := by
  refine Fun.enter (n := 41) (rs := [.tmp 0]) Tryd.func42 rfl Tryd.ntmps42 Tryd.results42 rfl (fun w F => ?_); refine TC.seq ?_; refine TC.region ?_; refine TL.run1 (pure_assign rfl) rfl ?_; refine TL.nil' ?_; refine TC.seq ?_; refine TC.region ?_; (iterate 39 refine TL.run1 (pure_build3 Ty.pl83 Ty.zero83 rfl rfl rfl) rfl ?_); refine TL.run1 (pure_buildSlice (xs := [.tmp 1, .tmp 2, .tmp 3, .tmp 4, .tmp 5, .tmp 6, .tmp 7, .tmp 8, .tmp 9, .tmp 10, .tmp 11, .tmp 12, .tmp 13, .tmp 14, .tmp 15, .tmp 16, .tmp 17, .tmp 18, .tmp 19, .tmp 20, .tmp 21, .tmp 22, .tmp 23, .tmp 24, .tmp 25, .tmp 26, .tmp 27, .tmp 28, .tmp 29, .tmp 30, .tmp 31, .tmp 32, .tmp 33, .tmp 34, .tmp 35, .tmp 36, .tmp 37, .tmp 38, .tmp 39]) Ty.app80 (by decide) rfl rfl (.cons rfl (.agg _) rfl (.cons rfl (.agg _) rfl (.cons rfl (.agg _) rfl (.cons rfl (.agg _) rfl (.cons rfl (.agg _) rfl (.cons rfl (.agg _) rfl (.cons rfl (.agg _) rfl (.cons rfl (.agg _) rfl (.cons rfl (.agg _) rfl (.cons rfl (.agg _) rfl (.cons rfl (.agg _) rfl (.cons rfl (.agg _) rfl (.cons rfl (.agg _) rfl (.cons rfl (.agg _) rfl (.cons rfl (.agg _) rfl (.cons rfl (.agg _) rfl (.cons rfl (.agg _) rfl (.cons rfl (.agg _) rfl (.cons rfl (.agg _) rfl (.cons rfl (.agg _) rfl (.cons rfl (.agg _) rfl (.cons rfl (.agg _) rfl (.cons rfl (.agg _) rfl (.cons rfl (.agg _) rfl (.cons rfl (.agg _) rfl (.cons rfl (.agg _) rfl (.cons rfl (.agg _) rfl (.cons rfl (.agg _) rfl (.cons rfl (.agg _) rfl (.cons rfl (.agg _) rfl (.cons rfl (.agg _) rfl (.cons rfl (.agg _) rfl (.cons rfl (.agg _) rfl (.cons rfl (.agg _) rfl (.cons rfl (.agg _) rfl (.cons rfl (.agg _) rfl (.cons rfl (.agg _) rfl (.cons rfl (.agg _) rfl (.cons rfl (.agg _) rfl .nil)))))))))))))))))))))))))))))))))))))))) rfl ?_; refine TL.run1 (pure_assign rfl) rfl ?_; refine TL.nil' ?_; refine TC.ret ?_
  exact ret_sl rfl rfl
def signS : List Span := [(40, 40, 8), (91, 91, 8), (123, 123, 8), (171, 171, 8), (8216, 8216, 8), (8220, 8220, 8), (12296, 12296, 8), (12298, 12298, 8), (12300, 12300, 8), (12302, 12302, 8), (12304, 12304, 8), (12308, 12308, 8), (33, 33, 9), (41, 41, 9), (58, 59, 9), (63, 63, 9), (93, 93, 9), (125, 125, 9), (187, 187, 9), (8221, 8221, 9), (8230, 8230, 9), (12289, 12290, 9), (12297, 12297, 9), (12299, 12299, 9), (12301, 12301, 9), (12303, 12303, 9), (12305, 12305, 9), (12309, 12309, 9), (44, 44, 10), (46, 46, 10), (1643, 1643, 10), (39, 39, 11), (183, 183, 11), (8217, 8217, 11), (45, 45, 12), (8208, 8208, 12), (8211, 8211, 12), (8212, 8212, 13)]
set_option maxRecDepth 100000 in
theorem sign_spec  : Fun Tryd.prog 43 [] (.sl 3 (encS signS)) := by
  refine Fun.enter (n := 40) (rs := [.tmp 0]) Tryd.func43 rfl Tryd.ntmps43 Tryd.results43 rfl (fun w F => ?_); refine TC.seq ?_; refine TC.region ?_; refine TL.run1 (pure_assign rfl) rfl ?_; refine TL.nil' ?_; refine TC.seq ?_; refine TC.region ?_; (iterate 38 refine TL.run1 (pure_build3 Ty.pl83 Ty.zero83 rfl rfl rfl) rfl ?_); refine TL.run1 (pure_buildSlice (xs := [.tmp 1, .tmp 2, .tmp 3, .tmp 4, .tmp 5, .tmp 6, .tmp 7, .tmp 8, .tmp 9, .tmp 10, .tmp 11, .tmp 12, .tmp 13, .tmp 14, .tmp 15, .tmp 16, .tmp 17, .tmp 18, .tmp 19, .tmp 20, .tmp 21, .tmp 22, .tmp 23, .tmp 24, .tmp 25, .tmp 26, .tmp 27, .tmp 28, .tmp 29, .tmp 30, .tmp 31, .tmp 32, .tmp 33, .tmp 34, .tmp 35, .tmp 36, .tmp 37, .tmp 38]) Ty.app80 (by decide) rfl rfl (.cons rfl (.agg _) rfl (.cons rfl (.agg _) rfl (.cons rfl (.agg _) rfl (.cons rfl (.agg _) rfl (.cons rfl (.agg _) rfl (.cons rfl (.agg _) rfl (.cons rfl (.agg _) rfl (.cons rfl (.agg _) rfl (.cons rfl (.agg _) rfl (.cons rfl (.agg _) rfl (.cons rfl (.agg _) rfl (.cons rfl (.agg _) rfl (.cons rfl (.agg _) rfl (.cons rfl (.agg _) rfl (.cons rfl (.agg _) rfl (.cons rfl (.agg _) rfl (.cons rfl (.agg _) rfl (.cons rfl (.agg _) rfl (.cons rfl (.agg _) rfl (.cons rfl (.agg _) rfl (.cons rfl (.agg _) rfl (.cons rfl (.agg _) rfl (.cons rfl (.agg _) rfl (.cons rfl (.agg _) rfl (.cons rfl (.agg _) rfl (.cons rfl (.agg _) rfl (.cons rfl (.agg _) rfl (.cons rfl (.agg _) rfl (.cons rfl (.agg _) rfl (.cons rfl (.agg _) rfl (.cons rfl (.agg _) rfl (.cons rfl (.agg _) rfl (.cons rfl (.agg _) rfl (.cons rfl (.agg _) rfl (.cons rfl (.agg _) rfl (.cons rfl (.agg _) rfl (.cons rfl (.agg _) rfl (.cons rfl (.agg _) rfl .nil))))))))))))))))))))))))))))))))))))))) rfl ?_; refine TL.run1 (pure_assign rfl) rfl ?_; refine TL.nil' ?_; refine TC.ret ?_
  exact ret_sl rfl rfl
theorem lowS_len : (encS lowS).length = 56 := rfl
theorem highS_len : (encS highS).length = 44 := rfl
theorem blanksS_len : (encS blanksS).length = 23 := rfl
theorem letS_len : (encS letS).length = 39 := rfl
theorem signS_len : (encS signS).length = 38 := rfl

def segT : List Span := lowS ++ highS
def refT : List Span := blanksS ++ letS ++ signS
theorem encS_app (l m : List Span) : encS (l ++ m) = encS l ++ encS m := by simp [encS]
theorem encS_each (l : List Span) : ∀ x ∈ encS l, x.length = 3 := by
  intro x hx; simp only [encS, List.mem_map] at hx; obtain ⟨s, _, rfl⟩ := hx; rfl
theorem segT_apart : Apart segT := by unfold Apart; decide +kernel
theorem segT_in : ∀ e ∈ segT, e ∈ refT := by decide +kernel
theorem segT_of : ∀ e ∈ refT, e ∈ segT := by decide +kernel
def clsS (p : Int) : Int := clsIn segT p
theorem clsS_ref (p : Int) : clsIn refT p = clsS p := clsIn_perm segT_apart segT_in segT_of p
def cmpP (a b p : Int) : Int := if b < p then -1 else if a > p then 1 else 0
theorem segT_len : segT.length = 100 := rfl
theorem refT_len : refT.length = 100 := rfl
set_option maxRecDepth 100000 in
theorem table3_spec  : Fun Tryd.prog 45 [] (.sl 3 (encS segT)) := by
  refine Fun.enterF (n := 4) (rs := [.tmp 0]) Tryd.func45 rfl Tryd.ntmps45 Tryd.results45 rfl (fun w F => ?_)
  have hlowS := lowS_len
  have hhighS := highS_len
  have hblanksS := blanksS_len
  have hletS := letS_len
  have hsignS := signS_len
  refine TC.seq ?_; refine TC.region ?_; refine TL.run1 (pure_assign rfl) rfl ?_; refine TL.nil' ?_; refine TC.seq ?_; refine TC.region ?_; refine TL.callD (SplitR.none _) lowO_spec .nil Tryd.call73 (fun t ht => by cases ht; exact of_decide_eq_true rfl) ?_
  rintro r2 H2 ⟨v1, rfl, rfl⟩
  refine TL.run1 (pure_call (high_spec) .nil Tryd.call74) rfl ?_; refine TL.append Ty.app85 rfl rfl (by intro _; repeat (first | exact UpdR.here _ | apply UpdR.there)) (by (try simp only [List.length_append]); omega) (by (try simp only [List.length_append]); omega) rfl (fun v3 hv3 => ?_); refine TL.run1 (pure_assign rfl) rfl ?_; refine TL.nil' ?_; refine TC.ret ?_
  exact retF_row rfl (by repeat (first | exact List.Mem.head _ | apply List.Mem.tail)) (by decide) (by rw [← encS_app]; exact encS_each _) (by rw [← encS_app]; rfl)
set_option maxRecDepth 100000 in
theorem find1_spec (a b c p : Int) : Fun Tryd.prog 72 [.agg [.v (.int .i64 a), .v (.int .i64 b), .v (.int .i64 c)], .v (.int .i64 p)] (.v (.int .i64 (cmpP a b p))) := by
  refine Fun.enter (n := 15) (rs := [.tmp 4]) Tryd.func72 rfl Tryd.ntmps72 Tryd.results72 rfl (fun w F => ?_); refine TC.seq ?_; refine TC.region ?_; refine TL.box rfl (.agg _) rfl (fun g2 => ?_); refine TL.run1 (pure_assign rfl) rfl ?_; refine TL.nil' ?_; refine TC.seq ?_; refine TC.block ?_; refine TC.seq ?_; refine TC.region ?_; refine TL.run1 (pure_fieldAddr_own Ty.f105_1 rfl) rfl ?_; refine TL.run1 (pure_load1_own Ty.one3 rfl (by repeat (first | exact List.Mem.head _ | apply List.Mem.tail)) (by repeat (first | exact DropR.zero _ | apply DropR.succ))) rfl ?_; refine TL.run1 (pure_move rfl) rfl ?_; refine TL.run1 (pure_lss rfl rfl) rfl ?_; refine TL.run1 (pure_assign rfl) rfl ?_; refine TL.nil' ?_; refine TC.condD rfl (fun hc5 => ?_) (fun hc5 => ?_)
  · try dsimp only at hc5
    refine TC.seq ?_; refine TC.region ?_; refine TL.run1 (pure_assign rfl) rfl ?_; refine TL.nil' ?_; refine TC.ret ?_; refine block_ret ?_; refine then_ret ?_
    exact ret_int rfl (by unfold cmpP; rw [if_pos hc5])
  · try dsimp only at hc5
    refine TC.seq ?_; refine TC.region ?_; refine TL.run1 (pure_fieldAddr_own Ty.f105_0 rfl) rfl ?_; refine TL.run1 (pure_load1_own Ty.one3 rfl (by repeat (first | exact List.Mem.head _ | apply List.Mem.tail)) (by repeat (first | exact DropR.zero _ | apply DropR.succ))) rfl ?_; refine TL.run1 (pure_move rfl) rfl ?_; refine TL.run1 (pure_gtr rfl rfl) rfl ?_; refine TL.run1 (pure_assign rfl) rfl ?_; refine TL.nil' ?_; refine TC.condD rfl (fun hc10 => ?_) (fun hc10 => ?_)
    · try dsimp only at hc10
      refine TC.seq ?_; refine TC.region ?_; refine TL.run1 (pure_assign rfl) rfl ?_; refine TL.nil' ?_; refine TC.ret ?_; refine block_ret ?_; refine then_ret ?_
      exact ret_int rfl (by unfold cmpP; rw [if_neg hc5, if_pos hc10])
    · try dsimp only at hc10
      refine TC.skip ?_; refine block_normal ?_; refine then_normal ?_; refine TC.seq ?_; refine TC.region ?_; refine TL.run1 (pure_assign rfl) rfl ?_; refine TL.nil' ?_; refine TC.ret ?_
      exact ret_int rfl (by unfold cmpP; rw [if_neg hc5, if_neg hc10])
set_option maxRecDepth 100000 in
theorem bs_spec (l : List Span) (p : Int) (ha : Apart l) (hl : l.length ≤ 1000000) : Fun Tryd.prog 71 [.sl 3 (encS l), .v (.int .i64 p), .fn 72 []] (.tup [.v (.int .i64 (hiI l p : Int)), .v (.bool (decide ((hiI l p : Int) < l.length ∧ (sAt l (hiI l p : Int)).1 ≤ p)))]) := by
  refine Fun.enter (n := 49) (rs := [.tmp 6, .tmp 7]) Tryd.func71 rfl Tryd.ntmps71 Tryd.results71 rfl (fun w F => ?_)
  have hk := encS_len l
  have hle := hiI_le l p
  refine TC.seq ?_; refine TC.region ?_; (iterate 2 refine TL.run1 (pure_assign rfl) rfl ?_); refine TL.nil' ?_; refine TC.seq ?_; refine TC.region ?_; refine TL.run1 (pure_move rfl) rfl ?_; refine TL.run1 (pure_len Ty.sl85 rfl) rfl ?_; refine TL.run1 (pure_assign rfl) rfl ?_; refine TL.nil' ?_; refine TC.seq ?_; refine TC.region ?_; refine TL.run1 (pure_move rfl) rfl ?_; (iterate 2 refine TL.run1 (pure_assign rfl) rfl ?_); refine TL.nil' ?_; refine TC.seq ?_; refine TC.block ?_; refine TC.loopX (X := Int × Int) (fun (i, j) => [(0, .sl 3 (encS l)), (1, .v (.int .i64 p)), (2, .fn 72 []), (8, .v (.int .i64 (encS l).length)), (9, .v (.int .i64 i)), (10, .v (.int .i64 j))]) (fun (i, j) => []) (fun (i, j) => (0 ≤ i) ∧ (i ≤ (hiI l p : Int)) ∧ ((hiI l p : Int) ≤ j) ∧ (j ≤ l.length)) (fun (i, j) => (j - i).toNat) (0, (encS l).length) ⟨by skip; repeat (first | exact Agree.nil | refine Agree.cons rfl ?_), by skip; repeat (first | exact List.nil_sublist _ | exact List.Sublist.refl _ | apply List.Sublist.cons_cons | apply List.Sublist.cons)⟩ ?_ ?_
  · skip
    exact ⟨by omega, by omega, by (try dsimp only); omega, by (try dsimp only); omega⟩
  rintro ⟨i, j⟩
  rintro ⟨k0, k1, k2, k3⟩
  show TC _ _ _ (Env.of [(0, .sl 3 (encS l)), (1, .v (.int .i64 p)), (2, .fn 72 []), (8, .v (.int .i64 (encS l).length)), (9, .v (.int .i64 i)), (10, .v (.int .i64 j))]) []
  (iterate 2 refine TC.seq ?_); refine TC.region ?_; (iterate 2 refine TL.run1 (pure_move rfl) rfl ?_); refine TL.run1 (pure_lss rfl rfl) rfl ?_; refine TL.nil' ?_; refine TC.condD rfl (fun hc17 => ?_) (fun hc17 => ?_)
  · try dsimp only at hc17
    refine TC.skip' ?_; refine TC.block ?_; refine TC.seq ?_
    have hb : 0 ≤ (i + j) / 2 ∧ (i + j) / 2 < j ∧ i ≤ (i + j) / 2 := by omega
    refine TC.region ?_; (iterate 2 refine TL.run1 (pure_move rfl) rfl ?_); refine TL.run1 (pure_add rfl rfl (mkI64 (by omega) (by omega))) rfl ?_; refine TL.run1 (pure_conv Tryd.underlying3 Tryd.underlying119 rfl (fit_u64 (by omega) (by omega))) rfl ?_; refine TL.run1 (pure_shrl (m := 2) (by rfl) rfl rfl (by decide) (by decide)) rfl ?_; refine TL.run1 (pure_conv Tryd.underlying119 Tryd.underlying3 rfl (fit_i64 (by omega) (by omega))) rfl ?_; refine TL.run1 (pure_assign rfl) rfl ?_; refine TL.nil' ?_; refine TC.seq ?_
    have hb : 0 ≤ (i + j) / 2 ∧ (i + j) / 2 < j ∧ i ≤ (i + j) / 2 := by omega
    have hrow := encS_get l ((i + j) / 2) (by omega) (by omega)
    refine TC.region ?_; (iterate 3 refine TL.run1 (pure_move rfl) rfl ?_); refine TL.run1 (pure_indexAddr Ty.sl85 rfl rfl (by omega) (by assumption) (List.cons_ne_nil _ _)) rfl ?_; refine TL.run1 (pure_load Ty.agg105 rfl (.succ (.succ (.succ (.zero _))))) rfl ?_; refine TL.run1 (pure_move rfl) rfl ?_; refine TL.run1 (pure_callv rfl (find1_spec (sAt l ((i + j) / 2)).1 (sAt l ((i + j) / 2)).2.1 (sAt l ((i + j) / 2)).2.2 p) (.cons rfl (.cons rfl .nil)) Tryd.call72) rfl ?_; refine TL.run1 (pure_lss rfl rfl) rfl ?_; refine TL.nil' ?_; refine TC.condD rfl (fun hc31 => ?_) (fun hc31 => ?_)
    · try dsimp only at hc31
      refine TC.region ?_; refine TL.run1 (pure_move rfl) rfl ?_; refine TL.run1 (pure_add rfl rfl (mkI64 (by omega) (by omega))) rfl ?_; refine TL.run1 (pure_assign rfl) rfl ?_; refine TL.nil ?_; refine block_normal ?_
      have hq : (sAt l ((i + j) / 2)).2.1 < p := by (unfold cmpP at hc31; split at hc31; assumption; split at hc31 <;> omega)
      have hnr : (i + j) / 2 < (hiI l p : Int) := by (rcases Int.lt_or_le ((i + j) / 2) (hiI l p : Int) with h | h; exact h; exact absurd (hiI_hi ha p _ h (by omega)) (by omega))
      refine loop_next ((i + j) / 2 + 1, j) ⟨by repeat (first | exact Agree.nil | refine Agree.cons rfl ?_), by repeat (first | exact List.nil_sublist _ | exact List.Sublist.refl _ | apply List.Sublist.cons_cons | apply List.Sublist.cons)⟩ ⟨by omega, by omega, by omega, by omega⟩ (by dsimp only; omega)
    · try dsimp only at hc31
      refine TC.region ?_; refine TL.run1 (pure_move rfl) rfl ?_; refine TL.run1 (pure_assign rfl) rfl ?_; refine TL.nil ?_; refine block_normal ?_
      have hq : ¬ (sAt l ((i + j) / 2)).2.1 < p := by (intro h; apply hc31; unfold cmpP; rw [if_pos h]; decide)
      have hnr : (hiI l p : Int) ≤ (i + j) / 2 := by (rcases Int.lt_or_le ((i + j) / 2) (hiI l p : Int) with h | h; exact absurd (hiI_lo l p _ (by omega) h) (by omega); exact h)
      refine loop_next (i, (i + j) / 2) ⟨by repeat (first | exact Agree.nil | refine Agree.cons rfl ?_), by repeat (first | exact List.nil_sublist _ | exact List.Sublist.refl _ | apply List.Sublist.cons_cons | apply List.Sublist.cons)⟩ ⟨by omega, by omega, by omega, by omega⟩ (by dsimp only; omega)
  · try dsimp only at hc17
    refine TC.exit ?_; refine then_exit ?_; refine loop_exit ?_; refine block_here ?_; refine then_normal ?_; refine TC.seq ?_; refine TC.region ?_; (iterate 3 refine TL.run1 (pure_move rfl) rfl ?_); refine TL.run1 (pure_lss rfl rfl) rfl ?_; refine TL.run1 (pure_move rfl) rfl ?_; refine TL.splitP 39 rfl (fun hg39 => ?_) (fun hg39 => ?_)
    · try dsimp only at hg39
      have hrow := encS_get l i (by omega) (by omega)
      (iterate 3 refine TL.runG rfl rfl (pure_move rfl) rfl ?_); refine TL.runG rfl rfl (pure_indexAddr Ty.sl85 rfl rfl (by omega) (by assumption) (List.cons_ne_nil _ _)) rfl ?_; refine TL.runG rfl rfl (pure_load Ty.agg105 rfl (.succ (.succ (.succ (.zero _))))) rfl ?_; refine TL.runG rfl rfl (pure_move rfl) rfl ?_; refine TL.runG rfl rfl (pure_callv rfl (find1_spec (sAt l i).1 (sAt l i).2.1 (sAt l i).2.2 p) (.cons rfl (.cons rfl .nil)) Tryd.call72) rfl ?_; refine TL.runG rfl rfl (pure_eql rfl rfl) rfl ?_; refine TL.run1 (pure_pick_true rfl rfl) rfl ?_; (iterate 2 refine TL.run1 (pure_assign rfl) rfl ?_); refine TL.nil' ?_; refine TC.ret ?_
      have hir : i = (hiI l p : Int) := by omega
      have hhi := hiI_hi ha p i (by omega) (by omega)
      exact ret2 (.inl rfl) rfl rfl (by rw [← hir]; congr 5; rw [decide_eq_decide]; unfold cmpP; rw [if_neg (by omega)]; constructor; (intro h; refine ⟨by omega, ?_⟩; rcases Int.lt_or_le p (sAt l i).1 with h2 | h2; rw [if_pos h2] at h; omega; exact h2); (rintro ⟨_, h⟩; rw [if_neg (by omega)]))
    · try dsimp only at hg39
      (iterate 8 refine TL.passG rfl rfl rfl rfl ?_); refine TL.run1 (pure_pick_false rfl rfl) rfl ?_; (iterate 2 refine TL.run1 (pure_assign rfl) rfl ?_); refine TL.nil' ?_; refine TC.ret ?_
      have hir : i = (hiI l p : Int) := by omega
      exact ret2 (.inl rfl) rfl rfl (by rw [← hir, decide_eq_false (p := (i < l.length ∧ (sAt l i).1 ≤ p)) (fun h => by omega)])
set_option maxRecDepth 100000 in
theorem find_spec (l : List Span) (p : Int) (ha : Apart l) (hl : l.length ≤ 1000000) : Fun Tryd.prog 44 [.sl 3 (encS l), .v (.int .i64 p)] (.v (.int .i64 (clsIn l p))) := by
  refine Fun.enter (n := 20) (rs := [.tmp 4]) Tryd.func44 rfl Tryd.ntmps44 Tryd.results44 rfl (fun w F => ?_); refine TC.seq ?_; refine TC.region ?_; refine TL.run1 (pure_assign rfl) rfl ?_; refine TL.nil' ?_; refine TC.seq ?_; refine TC.region ?_; (iterate 2 refine TL.run1 (pure_move rfl) rfl ?_); refine TL.run1 (pure_call (bs_spec l p ha hl) (.cons rfl (.cons rfl (.cons rfl .nil))) Tryd.call71) rfl ?_; refine TL.run1 (pure_move rfl) rfl ?_; (iterate 2 refine TL.run1 (pure_extract rfl rfl) rfl ?_); (iterate 2 refine TL.run1 (pure_assign rfl) rfl ?_); refine TL.nil' ?_; (iterate 2 refine TC.seq ?_); refine TC.region ?_; refine TL.run1 (pure_move rfl) rfl ?_; refine TL.run1 (pure_not rfl) rfl ?_; refine TL.nil' ?_; refine TC.condN rfl (fun hc14 => ?_) (fun hc14 => ?_)
  · try dsimp only at hc14
    have hin : ¬ ((hiI l p : Int) < l.length ∧ (sAt l (hiI l p : Int)).1 ≤ p) := by simpa using hc14
    refine TC.seq ?_; refine TC.region ?_; refine TL.run1 (pure_assign rfl) rfl ?_; refine TL.nil' ?_; refine TC.ret ?_; refine then_ret ?_
    exact ret_int rfl (by rw [clsIn_hi ha, if_neg hin])
  · try dsimp only at hc14
    have hin : (hiI l p : Int) < l.length ∧ (sAt l (hiI l p : Int)).1 ≤ p := by simpa using hc14
    have hrow := encS_get l (hiI l p : Int) (by omega) hin.1
    have hk := encS_len l
    refine TC.skip' ?_; refine TC.seq ?_; refine TC.region ?_; (iterate 2 refine TL.run1 (pure_move rfl) rfl ?_); refine TL.run1 (pure_indexAddr Ty.sl85 rfl rfl (by omega) (by assumption) (List.cons_ne_nil _ _)) rfl ?_; refine TL.run1 (pure_fieldAddr Ty.f105_2 rfl (.succ (.succ (.zero _))) (List.cons_ne_nil _ _)) rfl ?_; refine TL.run1 (pure_load1 Ty.one3 rfl) rfl ?_; refine TL.run1 (pure_assign rfl) rfl ?_; refine TL.nil' ?_; refine TC.ret ?_
    exact ret_int rfl (by rw [clsIn_hi ha, if_pos hin])
set_option maxRecDepth 100000 in
theorem SClass_spec (p : Int) : Fun Tryd.prog 23 [.v (.int .i64 p)] (.v (.int .i64 (clsS p))) := by
  refine Fun.enter (n := 6) (rs := [.tmp 2]) Tryd.func23 rfl Tryd.ntmps23 Tryd.results23 rfl (fun w F => ?_); refine TC.seq ?_; refine TC.region ?_; refine TL.run1 (pure_assign rfl) rfl ?_; refine TL.nil' ?_; refine TC.seq ?_; refine TC.region ?_; refine TL.run1 (pure_call (table3_spec) .nil Tryd.call45) rfl ?_; refine TL.run1 (pure_move rfl) rfl ?_; refine TL.run1 (pure_call (find_spec segT p segT_apart (by rw [segT_len]; omega)) (.cons rfl (.cons rfl .nil)) Tryd.call44) rfl ?_; refine TL.run1 (pure_assign rfl) rfl ?_; refine TL.nil' ?_; refine TC.ret ?_
  exact ret_int rfl rfl
set_option maxRecDepth 100000 in
theorem R3Class_spec (p : Int) : Fun Tryd.prog 21 [.v (.int .i64 p)] (.v (.int .i64 (clsS p))) := by
  refine Fun.enter (n := 37) (rs := [.tmp 2]) Tryd.func21 rfl Tryd.ntmps21 Tryd.results21 rfl (fun w F => ?_)
  have hlowS := lowS_len
  have hhighS := highS_len
  have hblanksS := blanksS_len
  have hletS := letS_len
  have hsignS := signS_len
  have hk := encS_len refT
  have hrl := refT_len
  refine TC.seq ?_; refine TC.region ?_; refine TL.run1 (pure_assign rfl) rfl ?_; refine TL.nil' ?_; refine TC.seq ?_; refine TC.region ?_; refine TL.callD (SplitR.none _) blanksO_spec .nil Tryd.call41 (fun t ht => by cases ht; exact of_decide_eq_true rfl) ?_
  rintro r2 H2 ⟨v1, rfl, rfl⟩
  refine TL.run1 (pure_call (let_spec) .nil Tryd.call42) rfl ?_; refine TL.append Ty.app80 rfl rfl (by intro _; repeat (first | exact UpdR.here _ | apply UpdR.there)) (by (try simp only [List.length_append]); omega) (by (try simp only [List.length_append]); omega) rfl (fun v7 hv7 => ?_); refine TL.run1 (pure_call (sign_spec) .nil Tryd.call43) rfl ?_; refine TL.append Ty.app80 rfl rfl (by intro _; repeat (first | exact UpdR.here _ | apply UpdR.there)) (by (try simp only [List.length_append]); omega) (by (try simp only [List.length_append]); omega) rfl (fun v9 hv9 => ?_); refine TL.run1 (pure_assign rfl) rfl ?_; refine TL.nil' ?_; (iterate 2 refine TC.seq ?_); refine TC.frz 3 [] (List.nil_sublist _) rfl (.rowS (xs := encS refT) (gone_nil (by repeat (first | exact List.Mem.head _ | apply List.Mem.tail))) (by decide) (encS_each _)) ?_; refine TC.region ?_; refine TL.run1 (pure_assign rfl) rfl ?_; refine TL.nil' ?_; refine TC.block ?_; refine TC.loopX (X := Int) (fun i => [(0, .v (.int .i64 p)), (3, .sl 3 (encS refT)), (4, .v (.int .i64 i))]) (fun i => []) (fun i => (0 ≤ i) ∧ (i ≤ refT.length) ∧ (clsIn refT p = clsIn (refT.drop i.toNat) p)) (fun i => (refT.length - i).toNat) (0) ⟨by skip; repeat (first | exact Agree.nil | refine Agree.cons rfl ?_), by skip; repeat (first | exact List.nil_sublist _ | exact List.Sublist.refl _ | apply List.Sublist.cons_cons | apply List.Sublist.cons)⟩ ?_ ?_
  · skip
    exact ⟨by omega, by omega, rfl⟩
  intro i
  rintro ⟨h0, h1, h2⟩
  show TC _ _ _ (Env.of [(0, .v (.int .i64 p)), (3, .sl 3 (encS refT)), (4, .v (.int .i64 i))]) []
  (iterate 2 refine TC.seq ?_); refine TC.region ?_; (iterate 2 refine TL.run1 (pure_move rfl) rfl ?_); refine TL.run1 (pure_len Ty.sl80 rfl) rfl ?_; refine TL.run1 (pure_lss rfl rfl) rfl ?_; refine TL.nil' ?_; refine TC.condD rfl (fun hc13 => ?_) (fun hc13 => ?_)
  · try dsimp only at hc13
    refine TC.skip' ?_; refine TC.seq ?_; refine TC.block ?_
    have hrow := encS_get refT i h0 (by omega)
    have hst := clsIn_drop refT i p h0 (by omega)
    refine TC.regionCut [16, 17, 18, 19, 20, 21, 22, 23, 24, 25, 26, 27, 28, 29, 30, 31] 31 ((sAt refT i).1 ≤ p ∧ p ≤ (sAt refT i).2.1) ?_ ?_
    · skip
      (iterate 3 refine TL.run1 (pure_move rfl) rfl ?_); refine TL.run1 (pure_indexAddr Ty.sl80 rfl rfl (by omega) (by assumption) (List.cons_ne_nil _ _)) rfl ?_; refine TL.run1 (pure_fieldAddr Ty.f83_0 rfl (.zero _) (List.cons_ne_nil _ _)) rfl ?_; refine TL.run1 (pure_load1 Ty.one3 rfl) rfl ?_; refine TL.run1 (pure_geq rfl rfl) rfl ?_; refine TL.run1 (pure_move rfl) rfl ?_; refine TL.splitP 23 rfl (fun hg23 => ?_) (fun hg23 => ?_)
      · try dsimp only at hg23
        (iterate 3 refine TL.runG rfl rfl (pure_move rfl) rfl ?_); refine TL.runG rfl rfl (pure_indexAddr Ty.sl80 rfl rfl (by omega) (by assumption) (List.cons_ne_nil _ _)) rfl ?_; refine TL.runG rfl rfl (pure_fieldAddr Ty.f83_1 rfl (.succ (.zero _)) (List.cons_ne_nil _ _)) rfl ?_; refine TL.runG rfl rfl (pure_load1 Ty.one3 rfl) rfl ?_; refine TL.runG rfl rfl (pure_leq rfl rfl) rfl ?_; refine TL.run1 (pure_pick_true rfl rfl) rfl ?_; refine TL.cutEnd (by repeat (first | exact Same.refl _ _ | refine Same.put rfl ?_)) rfl ?_
        first | (simp only [decide_eq_true_eq, Bool.false_eq_true, false_iff, true_iff, iff_true, iff_false, Bool.not_eq_true]; omega) | (simp_all; done) | (simp_all; omega) | grind
      · try dsimp only at hg23
        (iterate 7 refine TL.passG rfl rfl rfl rfl ?_); refine TL.run1 (pure_pick_false rfl rfl) rfl ?_; refine TL.cutEnd (by repeat (first | exact Same.refl _ _ | refine Same.put rfl ?_)) rfl ?_
        first | (simp only [decide_eq_true_eq, Bool.false_eq_true, false_iff, true_iff, iff_true, iff_false, Bool.not_eq_true]; omega) | (simp_all; done) | (simp_all; omega) | grind
    refine TC.condD rfl (fun hc31 => ?_) (fun hc31 => ?_)
    · try dsimp only at hc31
      have hrow := encS_get refT i h0 (by omega)
      refine TC.seq ?_; refine TC.region ?_; (iterate 2 refine TL.run1 (pure_move rfl) rfl ?_); refine TL.run1 (pure_indexAddr Ty.sl80 rfl rfl (by omega) (by assumption) (List.cons_ne_nil _ _)) rfl ?_; refine TL.run1 (pure_fieldAddr Ty.f83_2 rfl (.succ (.succ (.zero _))) (List.cons_ne_nil _ _)) rfl ?_; refine TL.run1 (pure_load1 Ty.one3 rfl) rfl ?_; refine TL.run1 (pure_assign rfl) rfl ?_; refine TL.nil' ?_; refine TC.ret ?_; refine block_ret ?_; refine then_ret ?_; refine loop_ret ?_; refine block_ret ?_; refine then_ret ?_
      exact ret_int rfl (by rw [← clsS_ref, h2, hst, if_pos hc31])
    · try dsimp only at hc31
      refine TC.skip ?_; refine block_normal ?_; refine then_normal ?_; refine TC.region ?_; refine TL.run1 (pure_move rfl) rfl ?_; refine TL.run1 (pure_add rfl rfl (mkI64 (by omega) (by omega))) rfl ?_; refine TL.run1 (pure_assign rfl) rfl ?_; refine TL.nil ?_; refine loop_next (i + 1) ⟨by repeat (first | exact Agree.nil | refine Agree.cons rfl ?_), by repeat (first | exact List.nil_sublist _ | exact List.Sublist.refl _ | apply List.Sublist.cons_cons | apply List.Sublist.cons)⟩ ⟨by omega, by omega, by rw [h2, hst, if_neg hc31]⟩ (by omega)
  · try dsimp only at hc13
    refine TC.exit ?_; refine then_exit ?_; refine loop_exit ?_; refine block_here ?_; refine then_normal ?_; refine TC.seq ?_; refine TC.region ?_; refine TL.run1 (pure_assign rfl) rfl ?_; refine TL.nil' ?_; refine TC.ret ?_
    exact ret_int rfl (by rw [← clsS_ref, h2, List.drop_eq_nil_of_le (by omega)]; rfl)
end Go.Ob
