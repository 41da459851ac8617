/- Ranges over strings; strings joined; strings of bytes. -/
import Derived.Test.YtlhjcleejolbiaaObT
set_option linter.unusedVariables false
set_option linter.unusedSimpArgs false
set_option linter.unusedSectionVars false
namespace Go.Ob
open Go.RowKit

section
variable {K : Ctx} {Q : Exit → Env → Hp → Prop} {env : Env} {H H' : Hp} {ops : Array Oper} {rest : List Oper} {t : Nat} {ty : TypeId} {pos : String} {af : Array Edge}

theorem TL.rangeStr {T : TypeId} {x : Operand} {s : ByteArray} (hu : K.P.underlying T = some .string) (hx : opD env x = some (.v (.string s))) (hd : Nat.blt t K.n = true)
    (h : ∀ g, TL K ops rest Q (env.put t (some (.v (.pointer (some ⟨g, 0, none⟩))))) (.obj g (.stringIter s 0) :: H)) : TL K ops (⟨some t, .range T x, ty, pos, af, none⟩ :: rest) Q env H := fun a w hs => by
  unfold wpListIn
  rw [if_pos (by rfl)]
  have e1 := Rep.of_v (hs.eval hx)
  have e : (execOp a.eval ⟨some t, .range T x, ty, pos, af, none⟩).run K.P w = .ok (.value (.pointer (some ⟨w.heap.size, 0, none⟩))) (w.alloc (.stringIter s 0)) := by
    simp [execOp, Instr.range, run_underlying hu, e1]
  refine wpIn_ok (fun _ h => by cases h) e ?_
  refine h w.heap.size _ _ (Sat.dst (hs.push (b := .obj w.heap.size (.stringIter s 0)) (Kept.alloc _ _ _) (fun g hg => by cases hg; exact Nat.le_refl _) ⟨by simp, heap_alloc_new w _⟩) (by simpa [Nat.blt_eq] using hd) (.v _))

theorem obj_ok {w : World} {o : Nat → Prop} (hh : HeapOK w o H) {g : Nat} {ob : Obj} (hm : Blk.obj g ob ∈ H) : w.heap[g]? = some ob := (hh.each _ hm).2

theorem Sat.nextStr {a : Act} {w : World} {g : Nat} {s : ByteArray} {p p' : Nat} {d : D} {v : Value} (h : Sat K env H a w) (hu : UpdR (.obj g (.stringIter s p)) (.obj g (.stringIter s p')) H H') (ht : t < K.n) (hv : d = .v v) :
    Sat K (env.put t (some d)) H' (a.put (some t) v) { w with heap := w.heap.setIfInBounds g (.stringIter s p') } := by
  have hg := obj_ok h.heap hu.mem
  have hlt : g < w.heap.size := (Array.getElem?_eq_some_iff.1 hg).1
  have k : Kept (fun x => some g = some x) w { w with heap := w.heap.setIfInBounds g (.stringIter s p') } :=
    ⟨rfl, rfl, rfl, by simp, fun j _ hn => by simp only; rw [Array.getElem?_setIfInBounds_ne (fun e => hn (by rw [e]))]⟩
  have hs : Sat K env H' a { w with heap := w.heap.setIfInBounds g (.stringIter s p') } :=
    Sat.upd (b := .obj g (.stringIter s p)) (b' := .obj g (.stringIter s p')) h hu (fun g' hg' => .inl hg') k ⟨by simp, by simp [hlt]⟩
  exact hs.dst ht (by rw [hv]; exact .v _)

theorem own_perm {H H' : Hp} (h : H.Perm H') (g : Nat) : own H g ↔ own H' g :=
  ⟨fun ⟨b, hb, hg⟩ => ⟨b, h.mem_iff.1 hb, hg⟩, fun ⟨b, hb, hg⟩ => ⟨b, h.mem_iff.2 hb, hg⟩⟩
/-- The order of the owned blocks is of no account. -/
theorem Sat.perm {a : Act} {w : World} (h : Sat K env H a w) (hp : H.Perm H') : Sat K env H' a w := by
  have ho : ∀ g, both K.F H' g → both K.F H g := fun g hg => hg.imp id (own_perm hp g).2
  refine ⟨fun t d hd => let ⟨u, hu, hr⟩ := h.tmps t d hd; ⟨u, hu, hr.fewer ho⟩, h.size, h.defers, ⟨fun b hb => Blk.ok_fewer (h.heap.each b (hp.mem_iff.2 hb)) ho, ?_⟩, h.kept, fun g hg => h.fresh g ((own_perm hp g).2 hg), h.foreign⟩
  exact hp.pairwise h.heap.apart (fun {x y} hxy g hy hx => hxy g hx hy)
theorem TL.perm {l : List Oper} (hp : H.Perm H') (h : TL K ops l Q env H') : TL K ops l Q env H := fun a w hs => h a w (hs.perm hp)
theorem TC.perm {c : Code} (hp : H.Perm H') (h : TC K c Q env H') : TC K c Q env H := TC.view (fun _ _ hs => hs.perm hp) h
/-- Two slots' values, and all owned blocks, become data. -/
theorem TC.frz2 {c : Code} {d1 d1' d2 d2' : D} (t1 t2 : Nat) (h1 : env t1 = some d1) (h2 : env t2 = some d2) (f1 : FrzR (gone H []) d1 d1') (f2 : FrzR (gone H []) d2 d2') (h : TC K c Q ((env.put t1 (some d1')).put t2 (some d2')) []) : TC K c Q env H :=
  TC.view (fun a w hsat => hsat.frz (List.nil_sublist _) fun t' x hx => by
    rcases Env.put_some hx with ⟨e, ho⟩ | ⟨_, ho⟩
    · subst e; cases ho; exact ⟨d2, h2, f2⟩
    · have ho' : (env.put t1 (some d1')) t' = some x := ho
      rcases Env.put_some ho' with ⟨e, hq⟩ | ⟨_, hq⟩
      · subst e; injection hq with hq; subst hq; exact ⟨d1, h1, f1⟩
      · exact ⟨x, hq, .same x⟩) h

/-- A guarded call, that runs, of a function that may write what is handed to it. -/
theorem TL.callDG {j gt : Nat} {b : Bool} {f : FuncId} {args : Array Operand} {ts : Array TypeId} {ds : List D} {H1 H2 : Hp} {R : D → Hp → Prop} (hg : (ops[j]?).bind (·.dst) = some gt) (hb : env gt = some (.v (.bool b)))
    (hs : SplitR H H1 H2) (hf : CallD K.P f ds H1 R) (ha : ArgsD env args.toList ds)
    (hc : ∀ (vs : Array Value) (w : World), (callFunc f vs).run K.P w = .ok (.enter f vs) w) (hd : Nat.blt t K.n = true)
    (h : ∀ r H', R r H' → TL K ops rest Q (env.put t (some r)) (H' ++ H2)) :
    TL K ops (⟨some t, .call { callee := .value (.func f), args := args, argTypes := ts }, ty, pos, af, some (j, b)⟩ :: rest) Q env H := fun a w hsat => by
  unfold wpListIn
  have hw : Want ops ⟨some t, .call { callee := .value (.func f), args := args, argTypes := ts }, ty, pos, af, some (j, b)⟩ env true := ⟨gt, .bool b, hg, hb, by cases b <;> rfl⟩
  rw [if_pos (hw.wanted hsat)]
  obtain ⟨hl, hr⟩ := ha.rep (w := w) (o := both K.F H) (ρ := a.eval) fun x hxm => fun dx hx => hsat.eval hx
  have hcall := hf w (both K.F H2) (args.toList.map a.eval) hl (fun j d u hd hu => (hr j d u hd hu).fewer fun g => part_set hs) (hsat.heap.part hs) (part_F hsat.heap hs hsat.F_lt)
  have hrun : (execOp a.eval ⟨some t, .call { callee := .value (.func f), args := args, argTypes := ts }, ty, pos, af, some (j, b)⟩).run K.P w = .ok (.enter f (args.toList.map a.eval).toArray) w := by
    have e3 : (List.map a.eval args.toList).toArray = Array.map a.eval args := by rw [← List.map_toArray]
    simp [execOp, resolve, Deferred.ofValue, Act.eval, invoke, hc, e3]
  refine wpIn_ok (fun _ h => by cases h) hrun ⟨fen_shallow, calls_fen (hcall.mono ?_)⟩
  rintro e w' ⟨v, r, H', rfl, hR, hrep, hh, hk, hfr⟩
  have hs' := hsat.frame hs hh hk hfr
  refine h r H' hR _ _ (hs'.put (dst := some t) (od := some r) (Kept.refl _ _) (fun t' e => by cases e; simpa [Nat.blt_eq] using hd) fun d hd' => ?_)
  cases hd'
  exact hrep.fewer fun g hg => by
    rcases hg with h | h
    · exact .inl (.inl h)
    · rcases (own_append g).1 h with h | h
      · exact .inr h
      · exact .inl (.inr h)

/-- One step of a range over a string. -/
theorem TL.nextStr {g p : Nat} {x : Operand} {s : ByteArray} {H' : Hp} (hx : opD env x = some (.v (.pointer (some ⟨g, 0, none⟩)))) (hm : UpdR (.obj g (.stringIter s p)) (.obj g (.stringIter s (p + (Utf8.decode s p).2))) H H') (hd : Nat.blt t K.n = true)
    (h1 : p < s.size → TL K ops rest Q (env.put t (some (.tup [.v (.bool true), .v (.int .i64 (p : Int)), .v (.int .i32 ((Utf8.decode s p).1 : Int))]))) H')
    (h0 : ¬ p < s.size → TL K ops rest Q (env.put t (some (.tup [.v (.bool false)]))) H) :
    TL K ops (⟨some t, .next x true, ty, pos, af, none⟩ :: rest) Q env H := fun a w hs => by
  unfold wpListIn
  rw [if_pos (by rfl)]
  have e1 := Rep.of_v (hs.eval hx)
  have hg := obj_ok hs.heap hm.mem
  have hlt : g < w.heap.size := (Array.getElem?_eq_some_iff.1 hg).1
  have ht : t < K.n := by simpa [Nat.blt_eq] using hd
  by_cases hp : p < s.size
  · have e : (execOp a.eval ⟨some t, .next x true, ty, pos, af, none⟩).run K.P w = .ok (.value (.tuple #[.bool true, .int .i64 p, .int .i32 (Utf8.decode s p).1])) { w with heap := w.heap.setIfInBounds g (.stringIter s (p + (Utf8.decode s p).2)) } := by
      simp [execOp, Instr.next, e1, getObj, setObj, Sem.run, hg, hp, goInt]
    refine wpIn_ok (fun _ h => by cases h) e ?_
    have hs' := hs.nextStr hm ht (d := .v (.bool true)) (v := .bool true) rfl
    have hs2 : Sat K env H' a { w with heap := w.heap.setIfInBounds g (.stringIter s (p + (Utf8.decode s p).2)) } := by
      have k : Kept (fun x => some g = some x) w { w with heap := w.heap.setIfInBounds g (.stringIter s (p + (Utf8.decode s p).2)) } :=
        ⟨rfl, rfl, rfl, by simp, fun j _ hn => by simp only; rw [Array.getElem?_setIfInBounds_ne (fun e => hn (by rw [e]))]⟩
      exact Sat.upd (b := .obj g (.stringIter s p)) (b' := .obj g (.stringIter s (p + (Utf8.decode s p).2))) hs hm (fun g' hg' => .inl hg') k ⟨by simp, by simp [hlt]⟩
    refine h1 hp _ _ (hs2.dst ht (.tup _ _ rfl fun j d u hd hu => ?_))
    match j with
    | 0 => simp at hd hu; subst hd; subst hu; exact .v _
    | 1 => simp at hd hu; subst hd; subst hu; exact .v _
    | 2 => simp at hd hu; subst hd; subst hu; exact .v _
    | j + 3 => simp at hd
  · have e : (execOp a.eval ⟨some t, .next x true, ty, pos, af, none⟩).run K.P w = .ok (.value (.tuple #[.bool false])) w := by
      simp [execOp, Instr.next, e1, getObj, Sem.run, hg, hp]
    refine wpIn_ok (fun _ h => by cases h) e ?_
    refine h0 hp _ _ (hs.dst ht (.tup _ _ rfl fun j d u hd hu => ?_))
    match j with
    | 0 => simp at hd hu; subst hd; subst hu; exact .v _
    | j + 1 => simp at hd
end

/-- a string's byte -/
def byt (s : ByteArray) (i : Nat) : Nat := (s.data.toList.getD i 0).toNat
theorem byt_lt (s : ByteArray) (i : Nat) : byt s i < 256 := UInt8.toNat_lt _
theorem byt_get (s : ByteArray) (i : Nat) (h : i < s.size) : ∃ b : UInt8, s.data[i]? = some b ∧ b.toNat = byt s i := by
  have h' : i < s.data.size := h
  refine ⟨s.data[i], by simp [h'], ?_⟩
  unfold byt
  rw [List.getD_eq_getElem?_getD, Array.getElem?_toList, Array.getElem?_eq_getElem h']
  rfl
/-- results that leave the owned blocks as they lie -/
theorem ret_boolK {P : Program} {env : Env} {H : Hp} {t : Nat} {a b : Bool} (hr : env t = some (.v (.bool a))) (h : a = b) : RetA P [ResultVar.tmp t].toArray (fun r H' => r = .v (.bool b) ∧ H' = H) .ret env H := by
  subst h
  exact ⟨.inl rfl, [.v (.bool a)], .tmp hr .nil, H, List.Sublist.refl _, rfl, rfl⟩
theorem ret_unitK {P : Program} {env : Env} {H : Hp} {e : Exit} (he : e = .ret ∨ e = .normal) : RetA P #[] (fun r H' => r = .tup [] ∧ H' = H) e env H := ⟨he, [], .nil, H, List.Sublist.refl _, rfl, rfl⟩
theorem ret_unitBox {P : Program} {env : Env} {e : Exit} {g T : Nat} {cs cs' : List D} (he : e = .ret ∨ e = .normal) (h : cs = cs') : RetA P #[] (fun r H' => r = .tup [] ∧ H' = [.box g T cs']) e env [.box g T cs] := by
  subst h; exact ret_unitK he
theorem ret3F {P : Program} {env : Env} {H : Hp} {t1 t2 t3 : Nat} {r d1 d2 d3 : D} {e : Exit} (he : e = .ret ∨ e = .normal) (h1 : env t1 = some d1) (h2 : env t2 = some d2) (h3 : env t3 = some d3) (h : FrzR (· ∈ H) (D.tup [d1, d2, d3]) r) :
    RetF P [ResultVar.tmp t1, .tmp t2, .tmp t3].toArray r e env H := ⟨he, [d1, d2, d3], .tmp h1 (.tmp h2 (.tmp h3 .nil)), h⟩

section
variable {P : Program} {H : Hp} {env : Env} {dst : Option Tmp} {ty : TypeId} {pos : String} {af : Array Edge} {gd : Option (Nat × Bool)} {x y : Operand} {t t2 : TypeId}
/-- the address of a cell of an array of the call's own -/
theorem pure_indexAddr_arr {n e es : Nat} {k : IntKind} {i : Int} {g p : Nat} (ht : ArrT P t n e es) (hx : opD env x = some (.v (.pointer (some ⟨g, p, none⟩)))) (hy : opD env y = some (.v (.int k i))) (h0 : 0 ≤ i) (h1 : i < n) :
    Pure P H ⟨dst, .indexAddr t x y, ty, pos, af, gd⟩ env (.v (.pointer (some ⟨g, p + i.toNat * es, none⟩))) := pure_of fun w _ ρ _ h => by
  have e1 := Rep.of_v (h x (by simp [Op.operands]) _ hx)
  have e2 := Rep.of_v (h y (by simp [Op.operands]) _ hy)
  have e3 : (⟨g, p, none⟩ : Addr).add (i.toNat * es) = ⟨g, p + i.toNat * es, none⟩ := Addr.add_lit g p _
  exact ⟨_, by simp [execOp, Instr.indexAt, e1, e2, asIntOf, run_underlying ht.under, h0, h1, ht.size, Instr.sureAddr, e3], .v _⟩
theorem pure_index_byt {s : ByteArray} {k : IntKind} {i : Int} {j : Nat} (hu : P.underlying t = some .string) (hx : opD env x = some (.v (.string s))) (hy : opD env y = some (.v (.int k i))) (hj : i = (j : Int)) (hl : j < s.size) :
    Pure P H ⟨dst, .index t x y, ty, pos, af, gd⟩ env (.v (.int .u8 (byt s j : Int))) := by
  obtain ⟨b, hb, he⟩ := byt_get s j hl
  subst hj
  have := pure_index_str (H := H) (dst := dst) (ty := ty) (pos := pos) (af := af) (gd := gd) hu hx hy (by omega) (by simpa using hb)
  rwa [he] at this
theorem pure_add_string {a b : ByteArray} (hx : opD env x = some (.v (.string a))) (hy : opD env y = some (.v (.string b))) (hl : a.size + b.size ≤ 9223372036854775807) :
    Pure P H ⟨dst, .binOp .add t x y t2, ty, pos, af, gd⟩ env (.v (.string (a ++ b))) := pure_bin hx hy fun w => by
  simp [eqGuard, binOp, Op.stringOp]
  omega
/-- a struct of three numbers -/
theorem pure_build3 {T : Nat} {x1 x2 x3 : Operand} {a b c : Int} (hp : PlacesT P T [(0, 1), (1, 1), (2, 1)]) (hz : ZeroT P T [.int .i64 0, .int .i64 0, .int .i64 0]) (h1 : opD env x1 = some (.v (.int .i64 a))) (h2 : opD env x2 = some (.v (.int .i64 b))) (h3 : opD env x3 = some (.v (.int .i64 c))) :
    Pure P H ⟨dst, .build T #[(0, x1), (1, x2), (2, x3)], ty, pos, af, gd⟩ env (.agg [.v (.int .i64 a), .v (.int .i64 b), .v (.int .i64 c)]) :=
  pure_build hp hz (.cons rfl h1 (.one rfl) rfl (.here (.nil _)) (.cons rfl h2 (.one rfl) rfl (.skip (.here (.nil _))) (.cons rfl h3 (.one rfl) rfl (.skip (.skip (.here (.nil _)))) (.nil _))))
end
end Go.Ob
