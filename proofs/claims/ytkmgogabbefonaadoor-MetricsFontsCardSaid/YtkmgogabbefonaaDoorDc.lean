import Derived.Test.YtkmgogabbefonaaDoorE1
import Derived.Test.YtkmgogabbefonaaDoorObW
set_option linter.unusedVariables false
set_option linter.unusedSimpArgs false
namespace Go.Ob
open Go.Proofs
def encF (f : Fo) : List D := [.v (.int .i64 f.face), .v (.int .i64 f.size), .v (.int .i64 f.raise), .v (.bool f.bold)]
def InF (f : Fo) : Prop := I64 f.face ∧ I64 f.size ∧ I64 f.raise
theorem dec_font {n : Nat} {ds : List D} (h : Typed Tryd.prog n 23 ds) : ∃ y : Fo, InF y ∧ ds = encF y := by
  obtain ⟨m0, ps0, rfl, a0⟩ := ty_st (ts := [3, 3, 3, 4]) Tryd.underlying23 rfl h
  obtain ⟨p0_0, q0_0, rfl, h0_0, a0⟩ := all_cons a0
  obtain ⟨p0_1, q0_1, rfl, h0_1, a0⟩ := all_cons a0
  obtain ⟨p0_2, q0_2, rfl, h0_2, a0⟩ := all_cons a0
  obtain ⟨p0_3, q0_3, rfl, h0_3, a0⟩ := all_cons a0
  obtain rfl := all_nil a0
  obtain ⟨x1, rfl, w1⟩ := ty_int Tryd.underlying3 h0_0
  obtain ⟨x2, rfl, w2⟩ := ty_int Tryd.underlying3 h0_1
  obtain ⟨x3, rfl, w3⟩ := ty_int Tryd.underlying3 h0_2
  obtain ⟨x4, rfl⟩ := ty_bool Tryd.underlying4 h0_3
  exact ⟨⟨x1, x2, x3, x4⟩, ⟨w1, w2, w3⟩, rfl⟩
theorem tv_font {d : D} (h : TypedV Tryd.prog 23 d) : ∃ f : Fo, InF f ∧ d = .agg [.v (.int .i64 f.face), .v (.int .i64 f.size), .v (.int .i64 f.raise), .v (.bool f.bold)] := by
  obtain ⟨n, ds, rfl, hd⟩ := tv_st Tryd.underlying23 h
  obtain ⟨f, hf, rfl⟩ := dec_font hd
  exact ⟨f, hf, rfl⟩
theorem tv_fonts {d : D} (h : TypedV Tryd.prog 47 d) : ∃ l : List Fo, (∀ f ∈ l, InF f) ∧ l.length ≤ maxLen ∧ d = .sl 4 (l.map encF) :=
  tv_sl (ok := InF) (enc := encF) Tryd.underlying47 (by kernel_rfl) (fun _ _ h => dec_font h) h
end Go.Ob
