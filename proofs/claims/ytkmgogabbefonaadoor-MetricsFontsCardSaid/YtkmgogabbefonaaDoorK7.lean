import Derived.Test.YtkmgogabbefonaaDoorK6
import Derived.Test.YtkmgogabbefonaaDoorV
set_option linter.unusedVariables false
set_option linter.unusedSimpArgs false
namespace Go.Ob
open Go.Proofs

def encT (l : List ByteArray) : List (List D) := l.map fun x => [.v (.string x)]
theorem encT_len (l : List ByteArray) : (encT l).length = l.length := by simp [encT]
theorem encT_snoc (l : List ByteArray) (a : ByteArray) : encT (l ++ [a]) = encT l ++ [[.v (.string a)]] := by simp [encT]
theorem encT_each (l : List ByteArray) : ∀ x ∈ encT l, x.length = 1 := by
  intro x hx; simp only [encT, List.mem_map] at hx; obtain ⟨s, _, rfl⟩ := hx; rfl
def tAt (l : List ByteArray) (i : Int) : ByteArray := l.getD i.toNat ⟨#[]⟩
theorem encT_get (l : List ByteArray) (i : Int) (h0 : 0 ≤ i) (h1 : i < l.length) : (encT l)[i.toNat]? = some [.v (.string (tAt l i))] := by
  have : i.toNat < l.length := by omega
  simp [encT, tAt, this]
def clS (s : ByteArray) : List ByteArray := (cAll (cls s)).map (subS s)
def bndV (s : ByteArray) : List Int := if okS s = true then bnds (cls s) else []
def cluV (s : ByteArray) : List ByteArray := if okS s = true then clS s else []
def errU (s : ByteArray) : Int := if okS s = true then 0 else 12
theorem take_get {α : Type} {l : List α} {k : Nat} {x : α} (h : l[k]? = some x) : l.take (k + 1) = l.take k ++ [x] := by
  obtain ⟨hk, rfl⟩ := List.getElem?_eq_some_iff.1 h
  rw [List.take_succ_eq_append_getElem hk]
theorem take_all_of {α : Type} (l : List α) (n : Nat) (h : n = l.length) : l.take n = l := List.take_of_length_le (by omega)
set_option maxRecDepth 100000 in
theorem Clusters_spec (s : ByteArray) (hs : s.size ≤ 1000000000) : Fun Tryd.prog 15 [.v (.string s)] (.tup [.sl 1 (encT (cluV s)), .v (.int .i64 (errU s))]) := by
  refine Fun.enterF (n := 19) (rs := [.tmp 2, .tmp 3]) Tryd.func15 rfl Tryd.ntmps15 Tryd.results15 rfl (fun w F => ?_)
  refine TC.seq ?_
  refine TC.region ?_
  refine TL.run1 (pure_assign rfl) rfl ?_
  refine TL.run1 (pure_assign rfl) rfl ?_
  refine TL.nil' ?_
  refine TC.seq ?_
  refine TC.seq ?_
  refine TC.region ?_
  refine TL.run1 (pure_move rfl) rfl ?_
  refine TL.run1 (pure_call (valid_spec s hs) (.cons rfl .nil) Tryd.call35) rfl ?_
  refine TL.run1 (pure_not rfl) rfl ?_
  refine TL.nil' ?_
  first | refine TC.condD rfl (fun hc9 => ?_) (fun hc9 => ?_) | refine TC.condN rfl (fun hc9 => ?_) (fun hc9 => ?_) | refine TC.cond rfl (fun hc9 => ?_) (fun hc9 => ?_)
  · try dsimp only at hc9
    have hok : okS s = false := decide_eq_false hc9
    refine TC.seq ?_
    refine TC.nilrow 9 1 ?_
    refine TC.region ?_
    refine TL.run1 (pure_assign rfl) rfl ?_
    refine TL.run1 (pure_assign rfl) rfl ?_
    refine TL.nil' ?_
    refine TC.ret ?_
    refine then_ret ?_
    unfold cluV errU; rw [hok]
    exact retF2 (.inl rfl) rfl rfl (.tupL (.cons (.rowS (v := .slice none 0 0) (e := 9) (xs := []) (by repeat (first | exact List.Mem.head _ | apply List.Mem.tail)) (by decide) (by simp)) (.cons (.same _) .nil)))
  · try dsimp only at hc9
    have hok : okS s = true := decide_eq_true hc9
    refine TC.skip' ?_
    refine TC.seq ?_
    refine TC.nilrow 9 1 ?_
    refine TC.region ?_
    refine TL.alloc Ty.zero29 rfl (fun g4 => ?_)
    refine TL.nil' ?_
    refine TC.seq ?_
    refine TC.seq ?_
    refine TC.region ?_
    refine TL.run1 (pure_move rfl) rfl ?_
    refine TL.run1 (pure_call (clusters_spec s) (.cons rfl .nil) Tryd.call36) rfl ?_
    refine TL.nil' ?_
    refine TC.block ?_
    refine TC.rangeFunc (caps := [.at_ [.v (.string s)]]) (xs := (encCl s)) rfl rfl Tryd.call51 (clu_seq s hs) (fun k H => ∃ v, List.Sublist [Blk.box g4 29 [.v v], .row v 9 1 (encT (((cAll (cls s)).take k).map (subS s)))] H) (fun _ _ => False) ⟨.slice none 0 0, List.Sublist.refl _⟩ ?_ (by rfl) ?_ ?_ ?_ ?_
    · skip
      intro x hx
      unfold encCl at hx
      obtain ⟨p, _, rfl⟩ := List.mem_map.1 hx
      rfl
    · skip
      rintro k x Hc w F S l hx ⟨v, hsub⟩
      refine TC.forget (fun _ _ h => h) hsub ?_
      obtain ⟨p, hp, rfl⟩ := encCl_mem s hx
      unfold cluR
      have hkl : k < (cAll (cls s)).length := (List.getElem?_eq_some_iff.1 hp).1
      have hcl := cAll_len_le (cls s)
      rw [cls_len] at hcl
      have hnl := nR_le s
      have htl : ((cAll (cls s)).take k).length ≤ k := by rw [List.length_take]; omega
      have htt := take_get hp
      refine TC.region ?_
      refine TL.run1 (pure_assign rfl) rfl ?_
      refine TL.nil ?_
      refine ⟨rfl, fun w F S => ?_⟩
      refine TC.block ?_
      have hkm := encT_len (((cAll (cls s)).take k).map (subS s))
      rw [List.length_map] at hkm
      refine TC.region ?_
      first | refine TL.run1 (pure_load1 Ty.one29 rfl) rfl ?_ | refine TL.run1 (pure_load1_own Ty.one29 rfl (by repeat (first | exact List.Mem.head _ | apply List.Mem.tail)) (by repeat (first | exact DropR.zero _ | apply DropR.succ))) rfl ?_
      refine TL.run1 (pure_move rfl) rfl ?_
      refine TL.run1 (pure_buildSlice (xs := [.tmp 15]) Ty.app29 (by decide) rfl rfl (.cons rfl (.one rfl) rfl .nil)) rfl ?_
      refine TL.append Ty.app29 rfl rfl (by intro _; repeat (first | exact UpdR.here _ | apply UpdR.there)) (by simp only [List.length_append, List.length_cons, List.length_nil]; omega) (by simp only [List.length_append, List.length_cons, List.length_nil]; omega) rfl (fun v17 hv17 => ?_)
      refine TL.store rfl rfl (.one (by first | rfl | assumption)) Tryd.sizeOf29 rfl (by repeat (first | exact UpdR.here _ | apply UpdR.there)) (by repeat (first | exact PutR.nil _ | apply PutR.here | apply PutR.skip)) ?_
      refine TL.nil ?_
      refine block_normal ?_
      exact ⟨_, by rw [htt, List.map_append, List.map_cons, List.map_nil, encT_snoc]; first | exact List.Sublist.refl _ | (repeat (first | exact List.Sublist.refl _ | apply List.Sublist.cons))⟩
    · skip
      rintro Hc ⟨v, hsub⟩
      refine block_normal ?_
      refine then_normal ?_
      refine TC.seq ?_
      refine TC.forget (fun _ _ h => h) hsub ?_
      refine TC.region ?_
      first | refine TL.run1 (pure_load1 Ty.one29 rfl) rfl ?_ | refine TL.run1 (pure_load1_own Ty.one29 rfl (by repeat (first | exact List.Mem.head _ | apply List.Mem.tail)) (by repeat (first | exact DropR.zero _ | apply DropR.succ))) rfl ?_
      refine TL.run1 (pure_assign rfl) rfl ?_
      refine TL.run1 (pure_assign rfl) rfl ?_
      refine TL.nil' ?_
      refine TC.ret ?_
      unfold cluV errU clS; rw [hok, if_pos rfl, if_pos rfl]
      rw [encCl_len, take_all_of (cAll (cls s)) _ rfl]
      exact retF2 (.inl rfl) rfl rfl (.tupL (.cons (.rowS (by repeat (first | exact List.Mem.head _ | apply List.Mem.tail)) (by decide) (encT_each _)) (.cons (.same _) .nil)))
    · skip
      first | exact fun _ h => h.elim | exact fun _ _ h => h.elim
    · skip
      first | exact fun _ h => h.elim | exact fun _ _ h => h.elim
set_option maxRecDepth 100000 in
theorem Count_spec (s : ByteArray) (hs : s.size ≤ 1000000000) : Fun Tryd.prog 33 [.v (.string s)] (.tup [.v (.int .i64 (cluV s).length), .v (.int .i64 (errU s))]) := by
  refine Fun.enter (n := 14) (rs := [.tmp 2, .tmp 3]) Tryd.func33 rfl Tryd.ntmps33 Tryd.results33 rfl (fun w F => ?_)
  have hk := encT_len (cluV s)
  refine TC.seq ?_
  refine TC.region ?_
  refine TL.run1 (pure_assign rfl) rfl ?_
  refine TL.run1 (pure_assign rfl) rfl ?_
  refine TL.nil' ?_
  refine TC.seq ?_
  refine TC.region ?_
  refine TL.run1 (pure_move rfl) rfl ?_
  refine TL.run1 (pure_call (Clusters_spec s hs) (.cons rfl .nil) Tryd.call15) rfl ?_
  refine TL.run1 (pure_move rfl) rfl ?_
  refine TL.run1 (pure_extract rfl rfl) rfl ?_
  refine TL.run1 (pure_extract rfl rfl) rfl ?_
  refine TL.run1 (pure_assign rfl) rfl ?_
  refine TL.run1 (pure_assign rfl) rfl ?_
  refine TL.nil' ?_
  refine TC.seq ?_
  refine TC.region ?_
  refine TL.run1 (pure_move rfl) rfl ?_
  first | refine TL.run1 (pure_len Ty.sl29 rfl) rfl ?_ | refine TL.run1 (pure_len_row Ty.sl29 rfl (by repeat (first | exact List.Mem.head _ | apply List.Mem.tail))) rfl ?_ | refine TL.run1 (pure_len_nil Ty.sl29 rfl) rfl ?_
  refine TL.run1 (pure_move rfl) rfl ?_
  refine TL.run1 (pure_assign rfl) rfl ?_
  refine TL.run1 (pure_assign rfl) rfl ?_
  refine TL.nil' ?_
  refine TC.ret ?_
  exact ret2 (.inl rfl) rfl rfl (by rw [hk])
end Go.Ob
