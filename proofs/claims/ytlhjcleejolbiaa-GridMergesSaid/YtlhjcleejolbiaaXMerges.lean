import Derived.Test.YtlhjcleejolbiaaRows
import Derived.Test.YtlhjcleejolbiaaZn
namespace Go.Proofs.Ytlhjcleejolbiaa
open Go.ChangeShapes Go.WideShapes Go.ChangeAt Go.RowKit Go.Ob
set_option linter.unusedVariables false
set_option linter.unusedSimpArgs false
namespace gridMerges
theorem own : ownKnob Try.prog.godebug = none := by kernel_rfl
theorem kids : Kids Try.prog (· < Try.prog.types.size) := kids_rows (by kernel_rfl) (by kernel_rfl)
theorem full : ∀ t e, t < Try.prog.types.size → Try.prog.underlying t = some (.slice e) → 0 < Try.prog.cellsOf e := slices_full_of Try.prog (by kernel_rfl)
theorem plainTypes : plainS Try.prog [22, 36, 33, 27, 77, 3, 31, 28, 111, 29, 113, 4, 34, 74, 72, 115, 9, 38] = true := by kernel_rfl
set_option maxRecDepth 100000 in
theorem lifted (os : Os) (started : os.Started) (H : Type) (enc : TypeId × Value → H) :
    ReturnsInHanded {} Try.checked os 11 .any (Rows.gridMergesSpec.pre6 enc Try.prog Try.f11 Rows.gridMergesRow.domain false) (Rows.gridMergesSpec.post enc Try.prog Try.f11 false true false false) := by
  refine returnsInHanded_of_change_sized (C := Try.checked) own started (by kernel_rfl) Try.func11
    (ChangeSpec.witness6 (enc := enc) (C := Try.checked) false ⟨#[], #[.slice none 0 0, .agg #[.int .i64 0, .int .i64 0, .int .i64 0, .int .i64 0]], []⟩ 8 (by kernel_rfl) (by kernel_rfl) (by kernel_rfl) (by kernel_rfl)) ?_
  intro W base args ds gs before hval0 hW hcnd hsz _
  have hval : ∀ (j : Nat) t v, Try.f11.params[j]? = some t → args[j]? = some v → Value.okWide Try.prog W .any base t v := hval0
  have hW' := hW
  obtain ⟨p, q, hA0, hV, rfl, hfz, hnd⟩ := hW
  have hA : DataW.TrodAll enc Try.prog W 0 (fun _ => true) true Try.f11.params.toList args.toList ds p := hA0
  have hAk := hA0
  rw [Try.params11] at hA hval
  obtain ⟨v0, vs0, d0, ds0, p0, q0, hargs, rfl, rfl, h0, r0⟩ := trodAll_cons hA
  obtain ⟨v1, vs1, d1, ds1, p1, q1, rfl, rfl, rfl, h1, r1⟩ := trodAll_cons r0
  obtain ⟨rfl, rfl, rfl⟩ := trodAll_nil r1
  obtain rfl : args = #[v0, v1] := by cases args; simp_all
  obtain ⟨rfl, rfl⟩ := trodVars_none hV
  obtain ⟨e0, t0, rep0⟩ := argRepS Try.underlying22 plainTypes (by decide) (hval 0 22 v0 rfl rfl) (fun m hm => by simpa using List.all_eq_true.1 hsz m (DataW.weights_mem_each (j := 0) (t := 22) (d := d0) rfl rfl m hm)) h0
  obtain ⟨e1, t1, rep1⟩ := argRep plainTypes (by decide) (hval 1 38 v1 rfl rfl) h1
  obtain ⟨rs, m, rsB, rsT, rfl⟩ := open_rowsB t0
  obtain ⟨a, rfl⟩ := open_a t1
  clear hA0 hval0
  simp only [List.append_nil] at hW' hAk
  refine ((GridMerges_spec (ItemB m) (CloneItem_spec m) rs rsB rsT a).walk (vs := [v0, v1]) ⟨rep0, rep1, trivial⟩ (GlobOK.none (by kernel_rfl))).mono fun e W' ⟨he, hb⟩ => ?_
  subst he
  exact ⟨_, rfl, post_plain rfl hW' hb (fun _ _ _ => (trodAll_cons_mk (shut_bool Try.underlying4 _) trodAll_mk0)) (fun sp hsp => trodAll_below kids full hb (by decide) hAk hsp) rfl (ok_one (by kernel_rfl) rfl (okWide_bool_mk Try.underlying4 _))⟩

theorem over : Rows.gridMergesRow.holds Try.pinned (OpenSpec.ofChange Rows.gridMergesSpec) :=
  OpenClaim.holds_of_wide 11 Try.f11 rfl rfl rfl rfl rfl rfl rfl ⟨rfl, rfl, rfl, rfl, rfl⟩ rfl rfl rfl rfl rfl (by kernel_rfl) Try.func11 (by kernel_rfl)
    (of_decide_eq_true (by kernel_rfl)) (by unfold Func.isWrapper; first | (rw [if_pos (by decide +kernel)]; kernel_rfl) | (rw [if_neg (by decide +kernel)]; exact ⟨rfl, rfl⟩))
    (fun os started H enc _ => lifted os started H enc)
end gridMerges
theorem gridMerges_holds : Rows.GridMergesSaid := gridMerges.over
#print axioms gridMerges_holds
end Go.Proofs.Ytlhjcleejolbiaa
