import Derived.Test.YtcmkgijekibdaaaRows
import Derived.Test.YtcmkgijekibdaaaD
import Derived.Test.YtcmkgijekibdaaaL1
namespace Go.Proofs.Ytcmkgijekibdaaa
open Go.ChangeShapes Go.WideShapes Go.ChangeAt Go.RowKit Go.Ob
set_option linter.unusedVariables false
set_option linter.unusedSimpArgs false
namespace stylesheetNames
theorem own : ownKnob Try.prog.godebug = none := by kernel_rfl
theorem kids : Kids Try.prog (· < Try.prog.types.size) := kids_rows (by kernel_rfl) (by kernel_rfl)
theorem full : ∀ t e, t < Try.prog.types.size → Try.prog.underlying t = some (.slice e) → 0 < Try.prog.cellsOf e := slices_full_of Try.prog (by kernel_rfl)
theorem plainTypes : plainS Try.prog [9] = true := by kernel_rfl
set_option maxRecDepth 100000 in
theorem lifted (os : Os) (started : os.Started) (H : Type) (enc : TypeId × Value → H) :
    ReturnsInHanded {} Try.checked os 4 .any (Rows.stylesheetNamesSpec.pre6 enc Try.prog Try.f4 Rows.stylesheetNamesRow.domain false) (Rows.stylesheetNamesSpec.post enc Try.prog Try.f4 false true false false) := by
  refine returnsInHanded_of_change (C := Try.checked) own started (by kernel_rfl) Try.func4
    (ChangeSpec.witness6 (enc := enc) (C := Try.checked) false ⟨#[], #[.string ⟨#[]⟩], []⟩ 8 (by kernel_rfl) (by kernel_rfl) (by kernel_rfl) (by kernel_rfl)) ?_
  intro W base args ds gs before hval0 hW hcnd _
  have hval : ∀ (j : Nat) t v, Try.f4.params[j]? = some t → args[j]? = some v → Value.okWide Try.prog W .any base t v := hval0
  have hW' := hW
  obtain ⟨p, q, hA0, hV, rfl, hfz, hnd⟩ := hW
  have hA : DataW.TrodAll enc Try.prog W 0 (fun _ => true) true Try.f4.params.toList args.toList ds p := hA0
  have hAk := hA0
  rw [Try.params4] at hA hval
  obtain ⟨v0, vs0, d0, ds0, p0, q0, hargs, rfl, rfl, h0, r0⟩ := trodAll_cons hA
  obtain ⟨rfl, rfl, rfl⟩ := trodAll_nil r0
  obtain rfl : args = #[v0] := by cases args; simp_all
  obtain ⟨rfl, rfl⟩ := trodVars_none hV
  obtain ⟨e0, t0, rep0⟩ := argRep plainTypes (by decide) (hval 0 9 v0 rfl rfl) h0
  obtain ⟨s, rfl, sw⟩ := tv_str Try.underlying9 t0
  clear hA0 hval0
  simp only [List.append_nil] at hW' hAk
  refine ((StylesheetNames_spec s).walk (vs := [v0]) ⟨rep0, trivial⟩ (GlobOK.none (by kernel_rfl))).mono fun e W' ⟨he, hb⟩ => ?_
  subst he
  exact ⟨_, rfl, post_plain rfl hW' hb (fun _ _ _ => (trodAll_cons_mk (shut_bool Try.underlying4 _) trodAll_mk0)) (fun sp hsp => trodAll_below kids full hb (by decide) hAk hsp) rfl (ok_one (by kernel_rfl) rfl (okWide_bool_mk Try.underlying4 _))⟩

theorem over : Rows.stylesheetNamesRow.holds Try.pinned (OpenSpec.ofChange Rows.stylesheetNamesSpec) :=
  OpenClaim.holds_of_wide 4 Try.f4 rfl rfl rfl rfl rfl rfl rfl ⟨rfl, rfl, rfl, rfl, rfl⟩ rfl rfl rfl rfl rfl (by kernel_rfl) Try.func4 (by kernel_rfl)
    (of_decide_eq_true (by kernel_rfl)) (by unfold Func.isWrapper; first | (rw [if_pos (by decide +kernel)]; kernel_rfl) | (rw [if_neg (by decide +kernel)]; exact ⟨rfl, rfl⟩))
    (fun os started H enc _ => lifted os started H enc)
end stylesheetNames
theorem stylesheetNames_holds : Rows.StylesheetNamesSaid := stylesheetNames.over
#print axioms stylesheetNames_holds
end Go.Proofs.Ytcmkgijekibdaaa
