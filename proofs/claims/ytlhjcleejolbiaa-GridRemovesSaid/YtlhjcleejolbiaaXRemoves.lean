import Derived.Test.YtlhjcleejolbiaaRows
import Derived.Test.YtlhjcleejolbiaaD
import Derived.Test.YtlhjcleejolbiaaW7
namespace Go.Proofs.Ytlhjcleejolbiaa
open Go.ChangeShapes Go.WideShapes Go.ChangeAt Go.RowKit Go.Ob
set_option linter.unusedVariables false
set_option linter.unusedSimpArgs false
namespace gridRemoves
theorem own : ownKnob Try.prog.godebug = none := by kernel_rfl
theorem kids : Kids Try.prog (· < Try.prog.types.size) := kids_rows (by kernel_rfl) (by kernel_rfl)
theorem full : ∀ t e, t < Try.prog.types.size → Try.prog.underlying t = some (.slice e) → 0 < Try.prog.cellsOf e := slices_full_of Try.prog (by kernel_rfl)
theorem plainTypes : plainS Try.prog [22, 36, 33, 27, 77, 3, 31, 28, 111, 29, 113, 4, 34, 74, 72, 115, 9] = true := by kernel_rfl
set_option maxRecDepth 100000 in
theorem lifted (os : Os) (started : os.Started) (H : Type) (enc : TypeId × Value → H) :
    ReturnsInHanded {} Try.checked os 7 .any (Rows.gridRemovesSpec.pre6 enc Try.prog Try.f7 Rows.gridRemovesRow.domain false) (Rows.gridRemovesSpec.post enc Try.prog Try.f7 false true false false) := by
  refine returnsInHanded_of_change (C := Try.checked) own started (by kernel_rfl) Try.func7
    (ChangeSpec.witness6 (enc := enc) (C := Try.checked) false ⟨#[], #[.slice none 0 0, .int .i64 0, .int .i64 0], []⟩ 8 (by kernel_rfl) (by kernel_rfl) (by kernel_rfl) (by kernel_rfl)) ?_
  intro W base args ds gs before hval0 hW hcnd _
  have hval : ∀ (j : Nat) t v, Try.f7.params[j]? = some t → args[j]? = some v → Value.okWide Try.prog W .any base t v := hval0
  have hW' := hW
  obtain ⟨p, q, hA0, hV, rfl, hfz, hnd⟩ := hW
  have hA : DataW.TrodAll enc Try.prog W 0 (fun _ => true) true Try.f7.params.toList args.toList ds p := hA0
  have hAk := hA0
  rw [Try.params7] at hA hval
  obtain ⟨v0, vs0, d0, ds0, p0, q0, hargs, rfl, rfl, h0, r0⟩ := trodAll_cons hA
  obtain ⟨v1, vs1, d1, ds1, p1, q1, rfl, rfl, rfl, h1, r1⟩ := trodAll_cons r0
  obtain ⟨v2, vs2, d2, ds2, p2, q2, rfl, rfl, rfl, h2, r2⟩ := trodAll_cons r1
  obtain ⟨rfl, rfl, rfl⟩ := trodAll_nil r2
  obtain rfl : args = #[v0, v1, v2] := by cases args; simp_all
  obtain ⟨rfl, rfl⟩ := trodVars_none hV
  obtain ⟨e0, t0, rep0⟩ := argRep plainTypes (by decide) (hval 0 22 v0 rfl rfl) h0
  obtain ⟨e1, t1, rep1⟩ := argRep plainTypes (by decide) (hval 1 3 v1 rfl rfl) h1
  obtain ⟨e2, t2, rep2⟩ := argRep plainTypes (by decide) (hval 2 3 v2 rfl rfl) h2
  obtain ⟨rs, rsok, rslen, rfl⟩ := open_rows t0
  obtain ⟨row, rfl, roww⟩ := tv_int Try.underlying3 t1
  obtain ⟨cell, rfl, cellw⟩ := tv_int Try.underlying3 t2
  clear hA0 hval0
  simp only [List.append_nil] at hW' hAk
  refine ((GridRemoves_spec rs row cell).walk (vs := [v0, v1, v2]) ⟨rep0, rep1, rep2, trivial⟩ (GlobOK.none (by kernel_rfl))).mono fun e W' ⟨he, hb⟩ => ?_
  subst he
  exact ⟨_, rfl, post_plain rfl hW' hb (fun _ _ _ => (trodAll_cons_mk (shut_bool Try.underlying4 _) trodAll_mk0)) (fun sp hsp => trodAll_below kids full hb (by decide) hAk hsp) rfl (ok_one (by kernel_rfl) rfl (okWide_bool_mk Try.underlying4 _))⟩

theorem over : Rows.gridRemovesRow.holds Try.pinned (OpenSpec.ofChange Rows.gridRemovesSpec) :=
  OpenClaim.holds_of_wide 7 Try.f7 rfl rfl rfl rfl rfl rfl rfl ⟨rfl, rfl, rfl, rfl, rfl⟩ rfl rfl rfl rfl rfl (by kernel_rfl) Try.func7 (by kernel_rfl)
    (of_decide_eq_true (by kernel_rfl)) (by unfold Func.isWrapper; first | (rw [if_pos (by decide +kernel)]; kernel_rfl) | (rw [if_neg (by decide +kernel)]; exact ⟨rfl, rfl⟩))
    (fun os started H enc _ => lifted os started H enc)
end gridRemoves
theorem gridRemoves_holds : Rows.GridRemovesSaid := gridRemoves.over
#print axioms gridRemoves_holds
end Go.Proofs.Ytlhjcleejolbiaa
