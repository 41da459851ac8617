import Derived.Test.YtkmgogabbefonaaDoorCards
import Derived.Test.YtkmgogabbefonaaDoorTie
import Derived.Test.YtkmgogabbefonaaDoorL
import Derived.Test.YtkmgogabbefonaaDoorE13
import Derived.Test.YtkmgogabbefonaaDoorDc
namespace Go.Proofs.YtkmgogabbefonaaDoor
open Go.ChangeShapes Go.WideShapes Go.ChangeAt Go.RowKit Go.Ob
set_option linter.unusedVariables false
set_option linter.unusedSimpArgs false
namespace metricsFonts
theorem plainTypes : plainS Tryd.prog [23, 3, 4] = true := by kernel_rfl
theorem reads (os : Os) {H : Type} (enc : TypeId × Value → H) : ∃ ds places, DataW.whole enc Tryd.prog ((laidWorld os).forCall (fun _ _ => 0) ⟨#[], #[.agg #[.int .i64 0, .int .i64 0, .int .i64 0, .int .i64 0], .agg #[.int .i64 0, .int .i64 0, .int .i64 0, .bool false]], []⟩).memory Tryd.f11.params.toList (OpenSpec.ofChange Rows.metricsFontsSpec).vars false (#[.agg #[.int .i64 0, .int .i64 0, .int .i64 0, .int .i64 0], .agg #[.int .i64 0, .int .i64 0, .int .i64 0, .bool false]] : Array Value).toList 8 = some (ds, [], places) :=
  ⟨[.agg [.lit (.int .i64 0), .lit (.int .i64 0), .lit (.int .i64 0), .lit (.int .i64 0)], .agg [.lit (.int .i64 0), .lit (.int .i64 0), .lit (.int .i64 0), .lit (.bool false)]], [], by kernel_rfl⟩
set_option maxRecDepth 100000 in
theorem lifted (os : Os) (started : os.Started) (H : Type) (enc : TypeId × Value → H) (F : Stop.Interp) :
    ReturnsInHanded {} Tryd.checked os 11 .any ((OpenSpec.ofChange Rows.metricsFontsSpec).preRow enc Tryd.prog Tryd.f11 Rows.metricsFontsRow.domain false Rows.metricsFontsRow.laid) (((OpenSpec.ofChange Rows.metricsFontsSpec).at F).post enc Tryd.prog Tryd.f11 false true false false) := by
  obtain ⟨zd, places, hx⟩ := reads os enc
  refine returnsInHanded_of_row (C := Tryd.checked) (s := (OpenSpec.ofChange Rows.metricsFontsSpec)) own started (by kernel_rfl) Tryd.func11
    (witness_row_atRef (enc := enc) (C := Tryd.checked) false (laidWorld os) #[.agg #[.int .i64 0, .int .i64 0, .int .i64 0, .int .i64 0], .agg #[.int .i64 0, .int .i64 0, .int .i64 0, .bool false]] rfl (by kernel_rfl) (by kernel_rfl) (by kernel_rfl)
      (OpenSpec.preRow_of_cond 8 hx (by kernel_rfl) (fun k hk => by cases hk) (by kernel_rfl) (laid_met os _))) ?_
  intro W base args ds gs before hval0 hW0 _ _ _ hL _ _
  have hW : DataW.Whole enc Tryd.prog Tryd.f11.params.toList Rows.metricsFontsSpec.vars false W args.toList ds gs before := hW0
  have hval : ∀ (j : Nat) t v, Tryd.f11.params[j]? = some t → args[j]? = some v → Value.okWide Tryd.prog W .any base t v := hval0
  have hG := glob_ok hL
  have hW' := hW
  obtain ⟨p, q, hA0, hV, rfl, hfz, hnd⟩ := hW
  have hA : DataW.TrodAll enc Tryd.prog W 0 (fun _ => true) true Tryd.f11.params.toList args.toList ds p := hA0
  have hAk := hA0
  rw [Tryd.params11] at hA hval
  obtain ⟨v0, vs0, d0, ds0, p0, q0, hargs, rfl, rfl, h0, r0⟩ := trodAll_cons hA
  obtain ⟨v1, vs1, d1, ds1, p1, q1, rfl, rfl, rfl, h1, r1⟩ := trodAll_cons r0
  obtain ⟨rfl, rfl, rfl⟩ := trodAll_nil r1
  obtain rfl : args = #[v0, v1] := by cases args; simp_all
  obtain ⟨rfl, rfl⟩ := trodVars_none hV
  obtain ⟨a0, b0, c0, d0, aw0, rep0⟩ := arg_arr4 Tryd.underlying54 Tryd.underlying3 (by kernel_rfl) (by kernel_rfl) (by kernel_rfl) (hval 0 54 v0 rfl rfl) h0
  obtain ⟨e1, t1, rep1⟩ := argRep plainTypes (by decide) (hval 1 23 v1 rfl rfl) h1
  obtain ⟨f, fw, rfl⟩ := tv_font t1
  clear hA0 hval0 hW0
  simp only [List.append_nil] at hW' hAk
  refine ((MetricsFonts_spec a0 b0 c0 d0 f).walk (vs := [v0, v1]) ⟨rep0, rep1, trivial⟩ hG).mono fun e W' ⟨he, hb⟩ => ?_
  subst he
  have hpost : Rows.metricsFontsSpec.post enc Tryd.prog Tryd.f11 false true false false W #[v0, v1] (.bool true) W' := post_plain rfl hW' hb (fun _ _ _ => (trodAll_cons_mk (shut_bool Tryd.underlying4 _) trodAll_mk0)) (fun sp hsp => trodAll_below kids full hb (by decide) hAk hsp) rfl (ok_one (by kernel_rfl) rfl (okWide_bool_mk Tryd.underlying4 _))
  exact ⟨_, rfl, hpost⟩

theorem said : Rows.MetricsFontsSaid :=
  OpenClaim.holds_of_cond 11 Tryd.f11 rfl rfl rfl rfl rfl rfl rfl ⟨rfl, rfl, rfl, rfl, rfl⟩ rfl rfl rfl rfl rfl (by kernel_rfl) Tryd.func11 (by kernel_rfl)
    (of_decide_eq_true (by kernel_rfl)) (by unfold Func.isWrapper; first | (rw [if_pos (by decide +kernel)]; kernel_rfl) | (rw [if_neg (by decide +kernel)]; exact ⟨rfl, rfl⟩))
    (fun os started H enc _ F => by rw [OpenClaim.pre_eq_preRow]; exact lifted os started H enc F)
theorem plain (f : FuncId) (fn : Func) (hf : Tryd.pinned.checked.prog.funcNamed "obelus/obeluslaw44.MetricsFonts" = some f) (hfn : Tryd.pinned.checked.prog.funcs[f]? = some fn) :
    false = Tryd.pinned.checked.prog.looks [] ∧ ∀ (j : Nat) t, fn.params[j]? = some t → Tryd.pinned.checked.prog.wantsStandIn t = false := by
  obtain rfl : f = 11 := Option.some.inj ((show Tryd.prog.funcNamed "obelus/obeluslaw44.MetricsFonts" = some 11 by kernel_rfl).symm.trans hf) |>.symm
  obtain rfl : fn = Tryd.f11 := (Option.some.inj (Tryd.func11.symm.trans hfn)).symm
  refine ⟨by kernel_rfl, fun j t ht => ?_⟩
  rw [Tryd.params11] at ht
  have hm := Array.mem_of_getElem? ht
  have hall : ∀ t ∈ ([54, 23] : List Nat), Tryd.prog.wantsStandIn t = false := by
    intro t ht
    simp only [List.mem_cons, List.mem_nil_iff, or_false] at ht
    rcases ht with rfl | rfl <;> kernel_rfl
  exact hall t (by simpa using hm)
end metricsFonts
theorem metricsFonts_holds : Rows.MetricsFontsCardSaid :=
  Claim7.holds_tied_plain_at .later [] _ _ _ _ metricsFonts.said (fun _ h => by cases h) (by kernel_rfl) (fun _ h => by cases h) metricsFonts_row_tie rfl ⟨rfl, rfl⟩ (by kernel_rfl) rfl metricsFonts.plain (by kernel_rfl)
#print axioms metricsFonts_holds
end Go.Proofs.YtkmgogabbefonaaDoor
