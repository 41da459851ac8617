/- Rows of the call's own, read where the order is drawn. -/
import Derived.Test.YtlhjcleejolbiaaObS
set_option linter.unusedVariables false
set_option linter.unusedSimpArgs false
set_option linter.unusedSectionVars false
namespace Go.Ob
open Go.RowKit
section
variable {K : Ctx} {Q : Exit → Env → Hp → Prop} {env : Env} {H : Hp}
theorem TC.rowOwn {c : Code} {v : Value} {e es : Nat} {xs : List (List D)} (hm : Blk.row v e es xs ∈ H) (h : (xs ≠ [] → ∃ g, v.ownBlock = some g) → TC K c Q env H) : TC K c Q env H := fun a w hs => by
  obtain ⟨vals, hown, _⟩ := row_ok hs.heap hm
  rcases hown.2 with ⟨_, hn⟩ | ⟨g, cap, cur, hv, _⟩
  · exact h (fun hne => absurd (List.length_eq_zero_iff.1 hn) hne) a w hs
  · exact h (fun _ => ⟨g, by rw [hv]; rfl⟩) a w hs
end
section
variable {P : Program} {H : Hp} {env : Env} {dst : Option Tmp} {ty : TypeId} {pos : String} {af : Array Edge} {gd : Option (Nat × Bool)}
theorem pure_indexRow {T e' es e g : Nat} {x y : Operand} {v : Value} {xs : List (List D)} {k : IntKind} {i : Int} (ht : SliceT P T e' es) (hx : opD env x = some (.v v)) (hy : opD env y = some (.v (.int k i))) (hm : Blk.row v e es xs ∈ H) (hg : v.ownBlock = some g) (h0 : 0 ≤ i) (hi : i < xs.length) :
    Pure P H ⟨dst, .indexAddr T x y, ty, pos, af, gd⟩ env (.v (.pointer (some ⟨g, i.toNat * es, none⟩))) := pure_of fun w F ρ hh h => by
  have e1 := Rep.of_v (h x (by simp [Op.operands]) _ hx)
  have e2 := Rep.of_v (h y (by simp [Op.operands]) _ hy)
  obtain ⟨vals, hown, _⟩ := row_ok hh hm
  rcases hown.2 with ⟨hn1, hn⟩ | ⟨g', cap, cur, hv, _⟩
  · rw [hn] at hi; omega
  · obtain rfl : g' = g := by rw [hv] at hg; simpa [Value.ownBlock] using hg
    have ha : (⟨g', 0, none⟩ : Addr).add (i.toNat * es) = ⟨g', i.toNat * es, none⟩ := by rw [own_add, Nat.zero_add]
    exact ⟨_, by simp [execOp, Instr.indexAt, e1, e2, hv, asIntOf, run_underlying ht.under, h0, hi, ht.size, ha], .v _⟩
end
/-! ### structs of ints and bools, compared -/
inductive MV where
  | i (a : Int)
  | b (c : Bool)
deriving DecidableEq
def MV.v : MV → Value
  | .i a => .int .i64 a
  | .b c => .bool c
def MV.k : MV → Bool
  | .i _ => true
  | .b _ => false
inductive MVD : List D → List MV → Prop where
  | nil : MVD [] []
  | i {a : Int} {ds : List D} {ms : List MV} : MVD ds ms → MVD (.v (.int .i64 a) :: ds) (.i a :: ms)
  | b {c : Bool} {ds : List D} {ms : List MV} : MVD ds ms → MVD (.v (.bool c) :: ds) (.b c :: ms)
theorem MVD.eq {ds : List D} {ms : List MV} (h : MVD ds ms) : ds = ms.map fun m => .v m.v := by induction h <;> simp [*, MV.v]
structure EqM (P : Program) (t : Nat) (ks : List Bool) : Prop where
  guard : P.eqGuardType P.depth t = false
  eq : ∀ w (as0 bs : List MV), as0.map MV.k = ks → bs.map MV.k = ks → (Op.equalIn 10000 t (.agg (as0.map MV.v).toArray) (.agg (bs.map MV.v).toArray)).run P w = .ok (decide (as0 = bs)) w
theorem agg_mvs {w : World} {o : Nat → Prop} {as0 : List MV} {u : Value} (h : Rep w o (.agg (as0.map fun a => .v a.v)) u) : u = .agg (as0.map MV.v).toArray := by
  cases h with
  | agg _ vs hs h1 hj =>
    congr 1
    apply Array.ext
    · simpa using hs
    · intro i h1 h2
      have := hj i _ _ (by rw [List.getElem?_map, List.getElem?_eq_getElem (by simpa using h2)]; rfl) (Array.getElem?_eq_getElem h1)
      simpa using Rep.of_v this
section
variable {P : Program} {H : Hp} {env : Env} {dst : Option Tmp} {ty : TypeId} {pos : String} {af : Array Edge} {gd : Option (Nat × Bool)} {t t2 : TypeId} {x y : Operand}
theorem pure_eql_mv {ks : List Bool} {ds es : List D} {as0 bs : List MV} (ht : EqM P t ks) (hx : opD env x = some (.agg ds)) (hy : opD env y = some (.agg es)) (h1 : MVD ds as0) (h2 : MVD es bs) (l1 : as0.map MV.k = ks) (l2 : bs.map MV.k = ks) :
    Pure P H ⟨dst, .binOp .eql t x y t2, ty, pos, af, gd⟩ env (.v (.bool (decide (as0 = bs)))) := pure_of fun w _ ρ _ h => by
  rw [h1.eq] at hx
  rw [h2.eq] at hy
  have e1 := agg_mvs (h x (by simp [Op.operands]) _ hx)
  have e2 := agg_mvs (h y (by simp [Op.operands]) _ hy)
  have hg := run_eqGuard_agg (P := P) w .eql t x y (as0.map MV.v).toArray (bs.map MV.v).toArray ht.guard
  have he := run_eql_struct (P := P) w t (as0.map MV.v).toArray (bs.map MV.v).toArray
  rw [ht.eq w as0 bs l1 l2] at he
  refine ⟨_, ?_, .v _⟩
  simp only [execOp, e1, e2, Sem.run_bind, hg, Result.andThen_ok, he]
  rfl
theorem pure_neq_mv {ks : List Bool} {ds es : List D} {as0 bs : List MV} (ht : EqM P t ks) (hx : opD env x = some (.agg ds)) (hy : opD env y = some (.agg es)) (h1 : MVD ds as0) (h2 : MVD es bs) (l1 : as0.map MV.k = ks) (l2 : bs.map MV.k = ks) :
    Pure P H ⟨dst, .binOp .neq t x y t2, ty, pos, af, gd⟩ env (.v (.bool (decide (as0 ≠ bs)))) := pure_of fun w _ ρ _ h => by
  rw [h1.eq] at hx
  rw [h2.eq] at hy
  have e1 := agg_mvs (h x (by simp [Op.operands]) _ hx)
  have e2 := agg_mvs (h y (by simp [Op.operands]) _ hy)
  have hg := run_eqGuard_agg (P := P) w .neq t x y (as0.map MV.v).toArray (bs.map MV.v).toArray ht.guard
  have he := run_neq_struct (P := P) w t (as0.map MV.v).toArray (bs.map MV.v).toArray
  rw [ht.eq w as0 bs l1 l2] at he
  refine ⟨_, ?_, .v _⟩
  simp only [execOp, e1, e2, Sem.run_bind, hg, Result.andThen_ok, he]
  simp [bne]
end
theorem CallD.enter {P : Program} {f n : Nat} {fn : Func} {c : Code} {ds : List D} {H : Hp} {R : D → Hp → Prop} {rs : List ResultVar} (hf : P.funcs[f]? = some fn) (hb : fn.body = some c) (hn : fn.ntmps = n) (hr : fn.results = rs.toArray) (hl : Nat.ble ds.length n = true)
    (h : ∀ w F, TC ⟨P, n, w, F, own H, none⟩ c (RetA P rs.toArray R) (Env.args 0 ds) H) : CallD P f ds H R := by
  subst hn
  exact CallD.of_body hf hb (by simpa using hl) (by rw [hr]; exact h)
end Go.Ob
