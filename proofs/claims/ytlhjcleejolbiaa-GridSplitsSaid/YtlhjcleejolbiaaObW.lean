/- Arguments of other kinds of numbers; slices of bytes. -/
import Derived.Test.YtlhjcleejolbiaaObV
import Derived.Laws.BytesArg
import Derived.Laws.BitsLemmas
import Derived.Laws.Externs
set_option linter.unusedVariables false
set_option linter.unusedSimpArgs false
namespace Go.Ob
open Go.RowKit
theorem ty_u16 {P : Program} {n : Nat} {t : Nat} {ds : List D} (hu : P.underlying t = some (.int .u16)) (h : Typed P n t ds) : ∃ x, ds = [.v (.int .u16 x)] ∧ 0 ≤ x ∧ x < 65536 := by
  cases n with
  | zero => exact h.elim
  | succ n =>
  simp only [Typed, hu] at h
  obtain ⟨x, rfl, hw⟩ := h
  refine ⟨x, rfl, ?_⟩
  simp [Lit.wf, IntKind.min, IntKind.max, IntKind.signed, IntKind.bits] at hw
  omega
theorem tv_u16 {P : Program} {t : Nat} {d : D} (hu : P.underlying t = some (.int .u16)) (h : TypedV P t d) : ∃ x, d = .v (.int .u16 x) ∧ 0 ≤ x ∧ x < 65536 := by
  obtain ⟨x, he, hx⟩ := ty_u16 hu (tv_one hu rfl h).choose_spec
  exact ⟨x, by simpa using he, hx⟩
theorem ty_u8 {P : Program} {n : Nat} {t : Nat} {ds : List D} (hu : P.underlying t = some (.int .u8)) (h : Typed P n t ds) : ∃ x, ds = [.v (.int .u8 x)] ∧ 0 ≤ x ∧ x < 256 := by
  cases n with
  | zero => exact h.elim
  | succ n =>
  simp only [Typed, hu] at h
  obtain ⟨x, rfl, hw⟩ := h
  refine ⟨x, rfl, ?_⟩
  simp [Lit.wf, IntKind.min, IntKind.max, IntKind.signed, IntKind.bits] at hw
  omega
theorem tv_u8 {P : Program} {t : Nat} {d : D} (hu : P.underlying t = some (.int .u8)) (h : TypedV P t d) : ∃ x, d = .v (.int .u8 x) ∧ 0 ≤ x ∧ x < 256 := by
  obtain ⟨x, he, hx⟩ := ty_u8 hu (tv_one hu rfl h).choose_spec
  exact ⟨x, by simpa using he, hx⟩

def encB (l : List Int) : List (List D) := l.map fun x => [.v (.int .u8 x)]
theorem tv_bytes {P : Program} {t e : Nat} {d : D} (hu : P.underlying t = some (.slice e)) (he : P.underlying e = some (.int .u8)) (hes : P.cellsOf e = 1) (h : TypedV P t d) :
    ∃ l : List Int, (∀ x ∈ l, 0 ≤ x ∧ x < 256) ∧ l.length ≤ maxLen ∧ d = .sl 1 (encB l) :=
  tv_sl (ok := fun x : Int => 0 ≤ x ∧ x < 256) (enc := fun x => [D.v (.int .u8 x)]) hu hes (fun _ _ h => let ⟨x, h1, h2⟩ := ty_u8 he h; ⟨x, h2, h1⟩) h
theorem encB_len (l : List Int) : (encB l).length = l.length := by simp [encB]
theorem encB_get (l : List Int) (i : Int) (h0 : 0 ≤ i) (h1 : i < l.length) : (encB l)[i.toNat]? = some [.v (.int .u8 (l.getD i.toNat 0))] := by
  have : i.toNat < l.length := by omega
  simp [encB, this]
theorem encB_flat : ∀ l : List Int, (encB l).flatten = l.map fun x => D.v (.int .u8 x)
  | [] => rfl
  | n :: l => by
    show ([[D.v (.int .u8 n)]] ++ encB l).flatten = _
    rw [List.flatten_append, encB_flat l]; rfl
section
variable {P : Program} {H : Hp} {env : Env} {dst : Option Tmp} {ty : TypeId} {pos : String} {af : Array Edge} {gd : Option (Nat × Bool)} {x y : Operand} {t t2 : TypeId}
theorem pure_remK {k : IntKind} {a b : Int} (hx : opD env x = some (.v (.int k a))) (hy : opD env y = some (.v (.int k b))) (h0 : 0 ≤ a) (h2 : b ≠ 0) :
    Pure P H ⟨dst, .binOp .rem t x y t2, ty, pos, af, gd⟩ env (.v (.int k (a % b))) := pure_bin hx hy fun w => by
  simp [eqGuard, binOp, Op.intDiv, h2, Int.tmod_eq_emod_of_nonneg h0]
theorem wraps62_i64 (n : Int) (h0 : 0 ≤ n) (h1 : n < 2 ^ 62) : IntKind.i64.wrap n = n := by rw [IntKind.wrap_i64]; omega
/-- a & (2^i - 1) -/
theorem pure_and_mask {a b m : Int} (i : Nat) (hi : i ≤ 62) (hm : (2 : Int) ^ i = m) (hb : b = m - 1) (hx : opD env x = some (.v (.int .i64 a))) (hy : opD env y = some (.v (.int .i64 b))) (h0 : 0 ≤ a) (h1 : a < 4611686018427387904) :
    Pure P H ⟨dst, .binOp .and t x y t2, ty, pos, af, gd⟩ env (.v (.int .i64 (a % m))) := pure_bin hx hy fun w => by
  subst hm hb
  have := bits_mask .i64 62 (by decide) wraps62_i64 i hi a h0 h1
  simp only [eqGuard, binOp_and, intBits_and, this]
  simp
theorem pure_and_mask8 {a b m : Int} (i : Nat) (hi : i ≤ 8) (hm : (2 : Int) ^ i = m) (hb : b = m - 1) (hx : opD env x = some (.v (.int .u8 a))) (hy : opD env y = some (.v (.int .u8 b))) (h0 : 0 ≤ a) (h1 : a < 256) :
    Pure P H ⟨dst, .binOp .and t x y t2, ty, pos, af, gd⟩ env (.v (.int .u8 (a % m))) := pure_bin hx hy fun w => by
  subst hm hb
  have := bits_mask .u8 8 (by decide) wraps_u8 i hi a h0 h1
  simp only [eqGuard, binOp_and, intBits_and, this]
  simp
/-- a | b, b below the power that divides a -/
theorem pure_or_join {a b m : Int} (i : Nat) (hm : (2 : Int) ^ i = m) (hx : opD env x = some (.v (.int .i64 a))) (hy : opD env y = some (.v (.int .i64 b))) (h0 : 0 ≤ a) (hd : a % m = 0) (h1 : a < 4611686018427387904) (h2 : 0 ≤ b) (h3 : b < m) (h4 : b < 4611686018427387904) :
    Pure P H ⟨dst, .binOp .or t x y t2, ty, pos, af, gd⟩ env (.v (.int .i64 (a + b))) := pure_bin hx hy fun w => by
  subst hm
  have := bits_join .i64 62 (by decide) wraps62_i64 i a b h0 hd h1 h2 h3 h4
  simp only [eqGuard, binOp_or, intBits_or, this]
  simp
/-- a << n -/
theorem pure_shl {yk : IntKind} {a n m : Int} (hm : (2 : Int) ^ n.toNat = m) (hx : opD env x = some (.v (.int .i64 a))) (hy : opD env y = some (.v (.int yk n))) (h0 : 0 ≤ n) (h1 : n ≤ 64) (h2 : 0 ≤ a * m) (h3 : a * m < 4611686018427387904) :
    Pure P H ⟨dst, .binOp .shl t x y t2, ty, pos, af, gd⟩ env (.v (.int .i64 (a * m))) := pure_bin hx hy fun w => by
  have hmin : min n.toNat 64 = n.toNat := by omega
  have hw : IntKind.i64.wrap (a * m) = a * m := wraps62_i64 _ h2 h3
  simp [eqGuard, binOp, Op.shift, show ¬ n < 0 by omega, IntKind.bits, hmin, hm, hw]
/-- internal/bytealg.IndexByteString: the model's own -/
theorem pure_indexByteString {f : FuncId} {fn : Func} {s : ByteArray} {c : Int} {ts : Array TypeId} (hf : P.funcs[f]? = some fn) (hname : (fn.name == "runtime.NumGoroutine") = false) (hb : fn.body.isNone = true) (hn' : Extern.findNext fn = none)
    (he : Extern.find fn = some Extern.BytealgIndexByte.indexByte) (hx : opD env x = some (.v (.string s))) (hy : opD env y = some (.v (.int .u8 c))) :
    Pure P H ⟨dst, .call { callee := .value (.func f), args := #[x, y], argTypes := ts }, ty, pos, af, gd⟩ env (.v (.int .i64 (firstIdx s c.toNat.toUInt8))) := by
  intro w F a hh _ h r next Q hn
  have e1 := Rep.of_v (h x (by simp [Op.operands, Call.operands]) _ hx)
  have e2 := Rep.of_v (h y (by simp [Op.operands, Call.operands]) _ hy)
  have hc := run_callFunc_extern (P := P) hf hname hb hn' he #[.string s, .int .u8 c] w
  rw [run_indexByte_string s c w] at hc
  have hrun : (execOp a.eval ⟨dst, .call { callee := .value (.func f), args := #[x, y], argTypes := ts }, ty, pos, af, gd⟩).run P w = .ok (.value (.int .i64 (firstIdx s c.toNat.toUInt8))) w := by
    have e3 : a.eval (.func f) = .func (.func f) #[] #[] := rfl
    simp [execOp, resolve, Deferred.ofValue, invoke, e1, e2, e3, hc]
  exact wpIn_ok (fun _ h => by cases h) hrun (hn _ w (.v _) (Kept.refl _ _))
/-- the string of a slice of bytes -/
theorem pure_conv_bytes {s d e : TypeId} {ns : List Int} (hs : P.underlying s = some (.slice e)) (he : P.underlying e = some (.int .u8)) (hd : P.underlying d = some .string) (hx : opD env x = some (.sl 1 (encB ns))) :
    Pure P H ⟨dst, .convert s d x, ty, pos, af, gd⟩ env (.v (.string (strOfNums ns))) := pure_of fun w _ ρ _ h => by
  have e1 := h x (by simp [Op.operands]) _ hx
  refine ⟨_, ?_, .v _⟩
  have hrow := Rep.sl_row (by decide) e1
  rcases hrow with ⟨hu, hn⟩ | ⟨a, c, news, hu, hl, _, hc, _, hv⟩
  · have hn0 : ns = [] := by simpa [encB] using hn
    subst hn0
    simp only [execOp, hu]
    rw [Sem.run_bind, run_convert_bytes_nil w s e hs he 0 0 d hd]
    rfl
  · simp only [execOp, hu]
    have hl' : news = ns.map (Value.int .u8) := by
      apply List.ext_getElem?
      intro j
      rcases Nat.lt_or_ge j ns.length with h | h
      · have hj : j < news.length := by rw [hl, encB_len]; omega
        have hfl := encB_flat ns
        have := (hv j _ news[j] (by rw [hfl, List.getElem?_map, List.getElem?_eq_getElem h]; rfl) (List.getElem?_eq_getElem hj)).2
        have h2 := Rep.of_v this
        rw [List.getElem?_eq_getElem hj, List.getElem?_map, List.getElem?_eq_getElem h, h2]; rfl
      · rw [List.getElem?_eq_none (by rw [hl, encB_len]; omega), List.getElem?_eq_none (by simpa using h)]
    have hlc : (loadCells a (encB ns).length).run P w = .ok (ns.map (Value.int .u8)).toArray w := by
      have := run_loadCells_list (P := P) w a (ns.map (Value.int .u8)) (fun j v hj => hc j v (by rw [hl']; exact hj))
      simpa [encB_len] using this
    rw [Sem.run_bind, run_convert_bytes_string w s d e _ _ c hs he hd, run_bytesToString w a _ c ns hlc, foldl_push_bytes, Result.andThen_ok, Sem.run_pure]
    rw [show (ByteArray.mk (ByteArray.empty.data ++ (List.map (fun n => UInt8.ofNat n.toNat) ns).toArray)) = strOfNums ns by simp [strOfNums, ByteArray.empty, ByteArray.emptyWithCapacity]; rfl]
end
end Go.Ob
