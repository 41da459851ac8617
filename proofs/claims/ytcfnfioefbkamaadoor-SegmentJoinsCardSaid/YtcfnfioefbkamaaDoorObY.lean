/- Rows made with a length; the two top bits of a byte. -/
import Derived.Test.YtcfnfioefbkamaaDoorObX
import Derived.Laws.MakeOwn
set_option linter.unusedVariables false
set_option linter.unusedSimpArgs false
set_option linter.unusedSectionVars false
namespace Go.Ob
open Go.RowKit
section
variable {P : Program} {H : Hp} {env : Env} {dst : Option Tmp} {ty : TypeId} {pos : String} {af : Array Edge} {gd : Option (Nat × Bool)} {x y : Operand} {t t2 : TypeId}
theorem bits_top8 : ∀ a : Fin 256, bits .and .u8 (a.val : Int) 192 = (a.val : Int) / 64 * 64 := by decide +kernel
/-- the two top bits of a byte -/
theorem pure_and_top8 {a : Int} (hx : opD env x = some (.v (.int .u8 a))) (hy : opD env y = some (.v (.int .u8 192))) (h0 : 0 ≤ a) (h1 : a < 256) :
    Pure P H ⟨dst, .binOp .and t x y t2, ty, pos, af, gd⟩ env (.v (.int .u8 (a / 64 * 64))) := pure_bin hx hy fun w => by
  have h := bits_top8 ⟨a.toNat, by omega⟩
  simp only [show ((a.toNat : Nat) : Int) = a by omega] at h
  simp only [eqGuard, binOp_and, intBits_and, h]
  simp
/-- two results of one cell each, in boxes -/
theorem ret_one2 {t1 t2 T1 T2 g1 g2 T1' T2' : Nat} {r d1 d2 : D} {e : Exit} (he : e = .ret ∨ e = .normal) (o1 : OneT P T1) (h1 : env t1 = some (.v (.pointer (some ⟨g1, 0, none⟩)))) (m1 : Blk.box g1 T1' [d1] ∈ H) (o2 : OneT P T2) (h2 : env t2 = some (.v (.pointer (some ⟨g2, 0, none⟩)))) (m2 : Blk.box g2 T2' [d2] ∈ H) (h : D.tup [d1, d2] = r) :
    RetA P [ResultVar.cell t1 T1, .cell t2 T2].toArray (fun r' H' => r' = r ∧ H' = []) e env H :=
  ⟨he, [d1, d2], .one o1 h1 m1 (.one o2 h2 m2 .nil), [], List.nil_sublist _, h, rfl⟩
end
section
variable {K : Ctx} {Q : Exit → Env → Hp → Prop} {env : Env} {H H' : Hp} {ops : Array Oper} {rest : List Oper} {t : Nat} {ty : TypeId} {pos : String} {af : Array Edge}
theorem madeCells_one (z : Value) (n : Nat) : (madeCells #[z] n).toList = List.replicate n z := by
  apply List.ext_getElem
  · simp [madeCells]
  · intro i h1 h2
    simp [madeCells, Nat.mod_one]
/-- make([]T, n) of a type of one cell. -/
theorem TL.makeRow {T e bytes n : Nat} {i : TypeInfo} {z : Value} {x y : Operand} (ht : K.P.underlying T = some (.slice e)) (hi : K.P.info? e = some i) (hz : i.zero = some z) (hs1 : i.size = 1) (hby : i.bytes = bytes) (hzc : z.cells = #[z]) (hzo : z.oneCell' = true)
    (hx : opD env x = some (.v (.int .i64 (n : Int)))) (hy : opD env y = some (.v (.int .i64 (n : Int)))) (hn : n ≤ 1000000) (hbn : bytes ≤ 1000) (hd : Nat.blt t K.n = true)
    (h : ∀ v, v.oneCell' = true → TL K ops rest Q (env.put t (some (.v v))) (.row v e 1 (List.replicate n [.v z]) :: H)) : TL K ops (⟨some t, .makeSlice T x y, ty, pos, af, none⟩ :: rest) Q env H := fun a w hs => by
  unfold wpListIn
  rw [if_pos (by rfl)]
  have e1 := Rep.of_v (hs.eval hx)
  have e2 := Rep.of_v (hs.eval hy)
  have hmul : (i.bytes : Int) * (n : Int) ≤ 281474976710656 := by
    have h1 : i.bytes * n ≤ 1000 * 1000000 := Nat.mul_le_mul (by omega) hn
    have h2 : ((i.bytes * n : Nat) : Int) ≤ 1000000000 := by omega
    rw [Int.natCast_mul] at h2; omega
  have hrun := run_make (P := K.P) w T e i z ht hi hz .i64 .i64 n n (by omega) (Int.le_refl _) hmul (by omega)
  simp only [Int.toNat_natCast, hs1, Nat.mul_one, hzc] at hrun
  have hrun2 : (execOp a.eval ⟨some t, .makeSlice T x y, ty, pos, af, none⟩).run K.P w = .ok (.value (.slice (some ⟨w.heap.size, 0, none⟩) n n)) (w.alloc (.cells (madeCells #[z] n) e)) := by
    simp only [execOp, e1, e2, Sem.run_bind, hrun, Result.andThen_ok, Sem.run_pure]
  refine wpIn_ok (fun _ h => by cases h) hrun2 ?_
  have hk : Kept no w (w.alloc (.cells (madeCells #[z] n) e)) := Kept.alloc _ _ _
  have hb : ∀ g, (Blk.row (.slice (some ⟨w.heap.size, 0, none⟩) n n) e 1 (List.replicate n [.v z])).blk = some g → w.heap.size ≤ g := fun g hg => by
    simp only [Blk.blk, Value.ownBlock, Option.some.injEq] at hg; omega
  have hml := madeCells_one z n
  refine h _ rfl _ _ (Sat.dst (hs.push hk hb ⟨List.replicate n z, ⟨by simp, .inr ⟨w.heap.size, n, madeCells #[z] n, by simp, Nat.zero_le _, heap_alloc_new w _, by simp, by (simp only [maxLen]; omega), by simp [madeCells], by rw [hml]; simp⟩⟩, by simp, fun j d u hd hu => ?_⟩) (by simpa [Nat.blt_eq] using hd) (.v _))
  have hfl : (List.replicate n [D.v z]).flatten = List.replicate n (D.v z) := by
    clear hd hu h hb hk hrun2 hrun hmul hx hy e1 e2 hn hml
    induction n with
    | zero => rfl
    | succ n ih => rw [List.replicate_succ, List.replicate_succ, List.flatten_cons, ih]; rfl
  rw [hfl, List.getElem?_replicate] at hd
  rw [List.getElem?_replicate] at hu
  split at hd
  · rename_i hj
    rw [if_pos hj] at hu
    obtain rfl := Option.some.inj hd
    obtain rfl := Option.some.inj hu
    exact ⟨hzo, .v _⟩
  · cases hd
end
end Go.Ob
