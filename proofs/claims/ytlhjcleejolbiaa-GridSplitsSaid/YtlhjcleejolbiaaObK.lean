/- Keys of maps: pairs of ints, as an array or a struct; ints. -/
import Derived.Test.YtlhjcleejolbiaaObJ
set_option linter.unusedVariables false
set_option linter.unusedSimpArgs false
set_option linter.unusedSectionVars false
namespace Go.Ob
open Go.RowKit

def pairV (a b : Int) : Value := .agg #[.int .i64 a, .int .i64 b]
theorem pairV_inj {a b c d : Int} (h : pairV a b = pairV c d) : a = c ∧ b = d := by
  unfold pairV at h
  injection h with h
  injection h with h
  injection h with h1 h2
  injection h1 with _ h1
  injection h2 with h2 _
  injection h2 with _ h2
  exact ⟨h1, h2⟩
def isPair (v : Value) : Prop := ∃ a b, v = pairV a b

theorem sameNow_agg (d : TypeDesc) (a : Array Value) (v : Value) : Instr.sameNow d (.agg a) v = none := by
  cases d <;> rfl

theorem KeyT.pair {P : Program} {k : TypeId} {dsc : TypeDesc} (hu : P.underlying k = some dsc) (hcheck : ∀ (em : Bool) (a b : Int) (w : World), (Instr.checkKey em 10000 k (pairV a b)).run P w = .ok () w)
    (heq : ∀ (w : World) (a b c d : Int), (Op.equal k (pairV a b) (pairV c d)).run P w = .ok (decide (a = c ∧ b = d)) w) : KeyT P k isPair where
  check := by rintro w em v ⟨a, b, rfl⟩; exact hcheck em a b w
  stays := by
    rintro w v ⟨a, b, rfl⟩
    have : Instr.sameBits 10000 (pairV a b) (pairV a b) = true := by
      show Instr.sameBits (9999 + 1) (.agg _) (.agg _) = true
      simp [Instr.sameBits]
    simp [Instr.keyThatStays, this]
  find := by
    rintro w v es ⟨a, b, rfl⟩ hgood
    have ask : ∀ (es : List MapEntry) (i : Nat), (∀ e ∈ es, isPair e.key) → ((Instr.findAsking k (pairV a b) es i).run P w = .ok none w ∧ ∀ e ∈ es, e.key ≠ pairV a b) ∨
        ∃ j e, (Instr.findAsking k (pairV a b) es i).run P w = .ok (some (i + j, e.val)) w ∧ es[j]? = some e ∧ e.key = pairV a b := by
      intro es
      induction es with
      | nil => intro i _; exact .inl ⟨rfl, by simp⟩
      | cons e es ih =>
        intro i hg
        obtain ⟨c, d, hcd⟩ := hg e (by simp)
        by_cases hh : a = c ∧ b = d
        · refine .inr ⟨0, e, ?_, rfl, by rw [hcd, hh.1, hh.2]⟩
          simp [Instr.findAsking, hcd, heq, hh]
        · have hne : e.key ≠ pairV a b := fun h => hh (by rw [hcd] at h; obtain ⟨h1, h2⟩ := pairV_inj h; exact ⟨h1.symm, h2.symm⟩)
          have hrun : (Instr.findAsking k (pairV a b) (e :: es) i).run P w = (Instr.findAsking k (pairV a b) es (i + 1)).run P w := by
            simp [Instr.findAsking, hcd, heq, hh]
          rcases ih (i + 1) (fun e he => hg e (by simp [he])) with ⟨h1, h2⟩ | ⟨j, e', h1, h2, h3⟩
          · refine .inl ⟨by rw [hrun, h1], fun e' he' => ?_⟩
            rcases List.mem_cons.1 he' with rfl | he'
            · exact hne
            · exact h2 e' he'
          · exact .inr ⟨j + 1, e', by rw [hrun, h1]; congr 3; omega, by simpa using h2, h3⟩
    have hfk : (Instr.findKey k (pairV a b) es).run P w = (Instr.findAsking k (pairV a b) es 0).run P w := by
      cases es with
      | nil => simp [Instr.findKey, run_underlying hu, Instr.findNow, Instr.findAsking]
      | cons e es => simp [Instr.findKey, run_underlying hu, Instr.findNow, pairV, sameNow_agg]
    rw [hfk]
    rcases ask es 0 hgood with h | ⟨j, e, h1, h2, h3⟩
    · exact .inl h
    · exact .inr ⟨j, e, by rw [h1, Nat.zero_add], h2, h3⟩

theorem equal_array2 {P : Program} {k e : TypeId} (hu : P.underlying k = some (.array 2 e)) (he : P.underlying e = some (.int .i64)) (hs : ∀ w, (sizeOf e).run P w = .ok 1 w) (hag : ∀ w, (isAgg e).run P w = .ok false w)
    (w : World) (a b c d : Int) : (Op.equal k (pairV a b) (pairV c d)).run P w = .ok (decide (a = c ∧ b = d)) w := by
  have h3 : ∀ n : Nat, ∀ x y, (Op.equalIn (n + 1) e (.int .i64 x) (.int .i64 y)).run P w = .ok (x == y) w := fun n x y => run_equalIn_int w n e .i64 .i64 x y he
  have hp : ∀ (xs : Array Value) (i : Nat) (v : Value), xs[i]? = some v → (part e xs i).run P w = .ok v w := fun xs i v hv => by simp [part, hag, hv]
  show (Op.equalIn (9998 + 2) k (.agg _) (.agg _)).run P w = _
  rw [Op.equalIn]
  simp only [Sem.run_bind, run_underlying hu, Result.andThen_ok, hs]
  rw [Std.Legacy.Range.forIn_eq_forIn_range']
  simp [List.range', hp, h3]
  by_cases h1 : a = c <;> by_cases h2 : b = d <;> simp [h1, h2]

end Go.Ob
