/- What is made becomes data; maps; comparisons of structs; slices and strings built and read; elements of a row written. -/
import Derived.Test.YtlhjcleejolbiaaObH
import Derived.Laws.StructEq
set_option linter.unusedVariables false
set_option linter.unusedSimpArgs false
set_option linter.unusedSectionVars false
namespace Go.Ob
open Go.RowKit

/-! ### what is made becomes data -/
inductive FrzR (M : Blk → Prop) : D → D → Prop where
  | same (d : D) : FrzR M d d
  | agg (ds ds' : List D) : ds.length = ds'.length → (∀ (j : Nat) (d d' : D), ds[j]? = some d → ds'[j]? = some d' → FrzR M d d') → FrzR M (.agg ds) (.agg ds')
  | tup (ds ds' : List D) : ds.length = ds'.length → (∀ (j : Nat) (d d' : D), ds[j]? = some d → ds'[j]? = some d' → FrzR M d d') → FrzR M (.tup ds) (.tup ds')
  | fn (f : Nat) (ds ds' : List D) : ds.length = ds'.length → (∀ (j : Nat) (d d' : D), ds[j]? = some d → ds'[j]? = some d' → FrzR M d d') → FrzR M (.fn f ds) (.fn f ds')
  | row (v : Value) (e es : Nat) (xs xs' : List (List D)) : M (.row v e es xs) → 0 < es → xs.length = xs'.length → (∀ x ∈ xs', x.length = es) →
      (∀ (j : Nat) (d d' : D), xs.flatten[j]? = some d → xs'.flatten[j]? = some d' → FrzR M d d') → FrzR M (.v v) (.sl es xs')
  | mp (g : Nat) (ks : List Value) (ds ds' : List D) : M (.mp g ks ds) → ds.length = ds'.length → (∀ (j : Nat) (d d' : D), ds[j]? = some d → ds'[j]? = some d' → FrzR M d d') → FrzR M (.v (.map (some g))) (.mp ks ds')
  | box (g t o : Nat) (cs cs' ds : List D) : M (.box g t cs) → DropR o cs cs' → cs' ≠ [] → cs'.length = ds.length → (∀ (j : Nat) (d d' : D), cs'[j]? = some d → ds[j]? = some d' → FrzR M d d') → FrzR M (.v (.pointer (some ⟨g, o, none⟩))) (.at_ ds)

theorem FrzR.list {M : Blk → Prop} : ∀ {ds ds' : List D}, ds.length = ds'.length → (∀ (j : Nat) (d d' : D), ds[j]? = some d → ds'[j]? = some d' → FrzR M d d') → True := fun _ _ => trivial

/-- A row's values, seen through other data for its cells. -/
theorem row_data' {w : World} {o o' : Nat → Prop} {v : Value} {e es : Nat} {xs xs' : List (List D)} (hes : 0 < es) (hok : (Blk.row v e es xs).ok w o) (hF : ∀ g, v.ownBlock = some g → ¬ o' g)
    (hl : xs.length = xs'.length) (he' : ∀ x ∈ xs', x.length = es)
    (hr : ∀ (j : Nat) (d d' : D) (u : Value), xs.flatten[j]? = some d → xs'.flatten[j]? = some d' → Rep w o d u → Rep w o' d' u) : Rep w o' (.sl es xs') v := by
  obtain ⟨vals, hown, hxe, hj⟩ := hok
  refine row_data (e := e) hes ⟨vals, by rw [← hl]; exact hown, he', fun j d' u hd' hu => ?_⟩ hF
  have hlt : j < xs'.flatten.length := (List.getElem?_eq_some_iff.1 hd').1
  have hlt2 : j < xs.flatten.length := by rw [flatten_len xs hxe, hl, ← flatten_len xs' he']; exact hlt
  obtain ⟨q1, q2⟩ := hj j _ u (List.getElem?_eq_getElem hlt2) hu
  exact ⟨q1, hr j _ d' u (List.getElem?_eq_getElem hlt2) hd' q2⟩

theorem frz_rep {w : World} {o o' : Nat → Prop} {M : Blk → Prop} (hM : ∀ b, M b → b.ok w o ∧ ∀ g, b.blk = some g → ¬ o' g) (ho : ∀ g, o' g → o g) {d d' : D} (h : FrzR M d d') :
    ∀ {u : Value}, Rep w o d u → Rep w o' d' u := by
  induction h with
  | same d => exact fun hr => hr.fewer ho
  | agg ds ds' hl hj ih =>
    intro u hr
    cases hr with
    | agg _ vs hs h1 hv =>
      refine .agg ds' vs (by omega) h1 fun j d' u hd' hu => ?_
      have hlt : j < ds.length := by rw [hl]; exact (List.getElem?_eq_some_iff.1 hd').1
      exact ih j _ d' (List.getElem?_eq_getElem hlt) hd' (hv j _ u (List.getElem?_eq_getElem hlt) hu)
  | tup ds ds' hl hj ih =>
    intro u hr
    cases hr with
    | tup _ vs hs hv =>
      refine .tup ds' vs (by omega) fun j d' u hd' hu => ?_
      have hlt : j < ds.length := by rw [hl]; exact (List.getElem?_eq_some_iff.1 hd').1
      exact ih j _ d' (List.getElem?_eq_getElem hlt) hd' (hv j _ u (List.getElem?_eq_getElem hlt) hu)
  | fn f ds ds' hl hj ih =>
    intro u hr
    cases hr with
    | fn _ _ vs hs hv =>
      refine .fn f ds' vs (by omega) fun j d' u hd' hu => ?_
      have hlt : j < ds.length := by rw [hl]; exact (List.getElem?_eq_some_iff.1 hd').1
      exact ih j _ d' (List.getElem?_eq_getElem hlt) hd' (hv j _ u (List.getElem?_eq_getElem hlt) hu)
  | row v e es xs xs' hm hes hl he' hj ih =>
    intro u hr
    rw [Rep.of_v hr]
    obtain ⟨hok, hF⟩ := hM _ hm
    exact row_data' hes hok hF hl he' fun j d d' u hd hd' hr => ih j d d' hd hd' hr
  | mp g ks ds ds' hm hl hj ih =>
    intro u hr
    rw [Rep.of_v hr]
    obtain ⟨⟨es, clock, hh, hs, hd, hk, hv⟩, hF⟩ := hM _ hm
    refine .mp ks ds' g es clock hh (hF g rfl) hs (by omega) hk fun j d' e hd' he => ?_
    have hlt : j < ds.length := by rw [hl]; exact (List.getElem?_eq_some_iff.1 hd').1
    exact ih j _ d' (List.getElem?_eq_getElem hlt) hd' (hv j _ e (List.getElem?_eq_getElem hlt) he)
  | box g t o cs cs' ds hm hd hne hl hj ih =>
    intro u hr
    rw [Rep.of_v hr]
    obtain ⟨⟨vs, hg, hs, hv⟩, hF⟩ := hM _ hm
    have hc : ∀ j d', ds[j]? = some d' → ∃ d u, cs'[j]? = some d ∧ cs[o + j]? = some d ∧ vs[o + j]? = some u := fun j d' hd' => by
      have hlt : j < cs'.length := by rw [hl]; exact (List.getElem?_eq_some_iff.1 hd').1
      have h1 : cs'[j]? = some cs'[j] := List.getElem?_eq_getElem hlt
      have h2 : cs[o + j]? = some cs'[j] := by rw [← hd.get]; exact h1
      have h3 : o + j < vs.size := by rw [hs]; exact (List.getElem?_eq_some_iff.1 h2).1
      exact ⟨_, vs[o + j], h1, h2, by simp [h3]⟩
    refine .at_ ds _ (fun j => vs.getD (o + j) undef) (fun e => hne (List.eq_nil_of_length_eq_zero (by rw [hl, e]; rfl))) (hF g rfl) (fun j d' hd' => ?_) (fun j d' hd' => ?_)
    · obtain ⟨d, u, h1, h2, h3⟩ := hc j d' hd'
      rw [own_add, cell_of_row w g (o + j) vs t (0, 0) hg]
      simp only [Array.getD_eq_getD_getElem?, h3, Option.getD_some]
      exact ⟨trivial, (hv _ _ _ h2 h3).1⟩
    · obtain ⟨d, u, h1, h2, h3⟩ := hc j d' hd'
      simp only [Array.getD_eq_getD_getElem?, h3, Option.getD_some]
      exact ih j d d' h1 hd' (hv _ _ _ h2 h3).2

/-- The blocks of H that are not among H'. -/
def gone (H H' : Hp) (b : Blk) : Prop := b ∈ H ∧ ∀ x ∈ H', ∀ g, b.blk = some g → x.blk ≠ some g

section
variable {K : Ctx} {Q : Exit → Env → Hp → Prop} {env : Env} {H H' : Hp}

theorem Sat.frz {a : Act} {w : World} {env' : Env} (h : Sat K env H a w) (hs : H'.Sublist H) (he : ∀ t d', env' t = some d' → ∃ d, env t = some d ∧ FrzR (gone H H') d d') : Sat K env' H' a w := by
  have h1 : Sat K env H' a w := h.forget (fun _ _ h => h) hs
  refine ⟨fun t d' hd' => ?_, h1.size, h1.defers, h1.heap, h1.kept, h1.fresh, h1.foreign⟩
  obtain ⟨d, hd, hf⟩ := he t d' hd'
  obtain ⟨u, hu, hr⟩ := h.tmps t d hd
  refine ⟨u, hu, frz_rep (fun b hb => ⟨h.heap.each b hb.1, fun g hg hx => ?_⟩) (fun g => both_mono fun _ => (hs.subset ·)) hf hr⟩
  rcases hx with hF | ⟨x, hx, hxg⟩
  · exact (h.F_lt g hF).2 ⟨b, hb.1, hg⟩
  · exact hb.2 x hx g hg hxg

/-- A slot's value, and the blocks behind it, become data. -/
theorem TC.frz {c : Code} {d d' : D} (t : Nat) (H' : Hp) (hs : H'.Sublist H) (ht : env t = some d) (hf : FrzR (gone H H') d d') (h : TC K c Q (env.put t (some d')) H') : TC K c Q env H :=
  TC.view (fun a w hsat => hsat.frz hs fun t' x hx => by
    rcases Env.put_some hx with ⟨rfl, ho⟩ | ⟨hne, ho⟩
    · cases ho; exact ⟨d, ht, hf⟩
    · exact ⟨x, ho, .same x⟩) h
theorem TL.frz {ops : Array Oper} {l : List Oper} {d d' : D} (t : Nat) (H' : Hp) (hs : H'.Sublist H) (ht : env t = some d) (hf : FrzR (gone H H') d d') (h : TL K ops l Q (env.put t (some d')) H') : TL K ops l Q env H :=
  fun a w hsat => h a w (hsat.frz hs fun t' x hx => by
    rcases Env.put_some hx with ⟨rfl, ho⟩ | ⟨hne, ho⟩
    · cases ho; exact ⟨d, ht, hf⟩
    · exact ⟨x, ho, .same x⟩)

theorem gone_nil {b : Blk} (h : b ∈ H) : gone H [] b := ⟨h, fun x hx => by cases hx⟩

end

/-- At a function's end: results that lead to what it made are data. -/
def RetF (P : Program) (rs : Array ResultVar) (r : D) (e : Exit) (env : Env) (H : Hp) : Prop :=
  (e = .ret ∨ e = .normal) ∧ ∃ ds, ResD P env H rs.toList ds ∧ FrzR (· ∈ H) (oneD ds) r

theorem Fun.of_bodyF {P : Program} {f : FuncId} {fn : Func} {c : Code} {ds : List D} {r : D} (hf : P.funcs[f]? = some fn) (hb : fn.body = some c) (hl : ds.length ≤ fn.ntmps)
    (h : ∀ w F, TC ⟨P, fn.ntmps, w, F, own [], none⟩ c (RetF P fn.results r) (Env.args 0 ds) []) : Fun P f ds r := by
  have key : CallD P f ds [] (fun r' H' => FrzR (· ∈ H') r' r) := CallD.of_body hf hb hl fun w F => (h w F).mono fun e env' H' ⟨he, rs, hres, hfrz⟩ => ⟨he, rs, hres, H', List.Sublist.refl _, hfrz⟩
  intro w F vs hvl hv hh hF
  refine (key w F vs hvl hv hh hF).mono ?_
  rintro e w' ⟨v, r', H', he, hfr, hr, hheap, hk, hfresh⟩
  refine ⟨v, r, [], he, ⟨rfl, rfl⟩, ?_, HeapOK.nil _ _, hk, fun g hg => absurd hg (own_nil g)⟩
  refine frz_rep (M := (· ∈ H')) (fun b hb => ⟨hheap.each b hb, fun g hg hx => ?_⟩) (fun g hx => hx.elim .inl fun h => absurd h (own_nil g)) hfr hr
  rcases hx with hFg | hx
  · rcases hfresh g ⟨b, hb, hg⟩ with h1 | h1
    · exact absurd h1 (own_nil g)
    · have := (hF g hFg).1; omega
  · exact own_nil g hx

theorem Fun.enterF {P : Program} {f n : Nat} {fn : Func} {c : Code} {ds : List D} {r : D} {rs : List ResultVar} (hf : P.funcs[f]? = some fn) (hb : fn.body = some c) (hn : fn.ntmps = n) (hr : fn.results = rs.toArray) (hl : Nat.ble ds.length n = true)
    (h : ∀ w F, TC ⟨P, n, w, F, own [], none⟩ c (RetF P rs.toArray r) (Env.args 0 ds) []) : Fun P f ds r := by
  subst hn
  exact Fun.of_bodyF hf hb (by simpa using hl) (by rw [hr]; exact h)

section
variable {P : Program} {H : Hp} {env : Env} {e : Exit}
/-- One result. -/
theorem retF1 {t : Nat} {r d : D} (he : e = .ret ∨ e = .normal) (hr : env t = some d) (hf : FrzR (· ∈ H) d r) : RetF P [ResultVar.tmp t].toArray r e env H :=
  ⟨he, [d], .tmp hr .nil, hf⟩
/-- One result, a row that was made. -/
theorem retF_row {t ee es : Nat} {v : Value} {xs : List (List D)} {r : D} (hr : env t = some (.v v)) (hm : Blk.row v ee es xs ∈ H) (hes : 0 < es) (hl : ∀ x ∈ xs, x.length = es) (h : D.sl es xs = r) : RetF P [ResultVar.tmp t].toArray r .ret env H :=
  retF1 (.inl rfl) hr (by subst h; exact .row v ee es xs xs hm hes rfl hl fun j d d' h1 h2 => by rw [h1] at h2; cases h2; exact .same d)
theorem retF_same {t : Nat} {r d : D} (hr : env t = some d) (h : d = r) : RetF P [ResultVar.tmp t].toArray r .ret env H := retF1 (.inl rfl) hr (by subst h; exact .same d)
end

/-! ### maps -/
/-- What the operations on a map need of its keys. -/
structure KeyT (P : Program) (k : TypeId) (good : Value → Prop) : Prop where
  check : ∀ w em v, good v → (Instr.checkKey em 10000 k v).run P w = .ok () w
  find : ∀ w v (es : List MapEntry), good v → (∀ e ∈ es, good e.key) →
    ((Instr.findKey k v es).run P w = .ok none w ∧ ∀ e ∈ es, e.key ≠ v) ∨ ∃ j e, (Instr.findKey k v es).run P w = .ok (some (j, e.val)) w ∧ es[j]? = some e ∧ e.key = v
  stays : ∀ w v, good v → (Instr.keyThatStays v v).run P w = .ok v w

inductive LookR (k : Value) : List Value → List D → Option D → Prop where
  | nil : LookR k [] [] none
  | here {ks : List Value} {d : D} {ds : List D} : LookR k (k :: ks) (d :: ds) (some d)
  | there {k' : Value} {ks : List Value} {d : D} {ds : List D} {r : Option D} : k' ≠ k → LookR k ks ds r → LookR k (k' :: ks) (d :: ds) r

inductive SetR (k : Value) (d : D) : List Value → List D → List Value → List D → Prop where
  | nil : SetR k d [] [] [k] [d]
  | here {ks : List Value} {d' : D} {ds : List D} : SetR k d (k :: ks) (d' :: ds) (k :: ks) (d :: ds)
  | there {k' : Value} {ks ks' : List Value} {d' : D} {ds ds' : List D} : k' ≠ k → SetR k d ks ds ks' ds' → SetR k d (k' :: ks) (d' :: ds) (k' :: ks') (d' :: ds')

theorem LookR.none_ {k : Value} {ks : List Value} {ds : List D} (h : LookR k ks ds none) : ∀ k' ∈ ks, k' ≠ k := by
  generalize hr : (none : Option D) = r at h
  induction h with
  | nil => intro k' hk; cases hk
  | here => cases hr
  | there hne _ ih => intro k' hk; rcases List.mem_cons.1 hk with rfl | hk
                      · exact hne
                      · exact ih hr k' hk
theorem LookR.some_ {k : Value} {ks : List Value} {ds : List D} {d : D} (h : LookR k ks ds (some d)) : ∃ j : Nat, ks[j]? = some k ∧ ds[j]? = some d ∧ ∀ i : Nat, i < j → ks[i]? ≠ some k := by
  generalize hr : some d = r at h
  induction h with
  | nil => cases hr
  | here => cases hr; exact ⟨0, rfl, rfl, fun i hi => by omega⟩
  | there hne _ ih =>
    obtain ⟨j, h1, h2, h3⟩ := ih hr
    refine ⟨j + 1, by simpa using h1, by simpa using h2, fun i hi => ?_⟩
    cases i with
    | zero => simpa using hne
    | succ i => simpa using h3 i (by omega)

theorem SetR.spec {k : Value} {d : D} {ks ks' : List Value} {ds ds' : List D} (h : SetR k d ks ds ks' ds') (hl : ds.length = ks.length) :
    ((∀ k' ∈ ks, k' ≠ k) ∧ ks' = ks ++ [k] ∧ ds' = ds ++ [d]) ∨ ∃ j : Nat, ks[j]? = some k ∧ ks' = ks ∧ ds' = ds.set j d ∧ ∀ i : Nat, i < j → ks[i]? ≠ some k := by
  induction h with
  | nil => exact .inl ⟨fun k' hk => absurd hk (by simp), rfl, rfl⟩
  | here => exact .inr ⟨0, rfl, rfl, rfl, fun i hi => by omega⟩
  | there hne _ ih =>
    rcases ih (by simpa using hl) with ⟨h1, h2, h3⟩ | ⟨j, h1, h2, h3, h4⟩
    · refine .inl ⟨fun k' hk => ?_, by rw [h2]; rfl, by rw [h3]; rfl⟩
      rcases List.mem_cons.1 hk with rfl | hk
      · exact hne
      · exact h1 k' hk
    · refine .inr ⟨j + 1, by simpa using h1, by rw [h2], by rw [h3]; rfl, fun i hi => ?_⟩
      cases i with
      | zero => simpa using hne
      | succ i => simpa using h4 i (by omega)

/-- A key: a value whose data tell it whole. -/
inductive FlatD : D → Value → Prop where
  | v (x : Value) : FlatD (.v x) x
  | agg (ds : List D) (vs : List Value) : ds = vs.map .v → FlatD (.agg ds) (.agg vs.toArray)
theorem FlatD.eq {d : D} {v u : Value} {w : World} {o : Nat → Prop} (h : FlatD d v) (hr : Rep w o d u) : u = v := by
  cases h with
  | v => exact Rep.of_v hr
  | agg ds vs he =>
    subst he
    cases hr with
    | agg _ us hs h1 hj =>
      congr 1
      apply Array.ext
      · simpa using hs
      · intro i h1 h2
        have := hj i _ _ (by rw [List.getElem?_map, List.getElem?_eq_getElem (by simpa using h2)]; rfl) (Array.getElem?_eq_getElem h1)
        simpa using Rep.of_v this

section
variable {P : Program} {H : Hp} {env : Env} {dst : Option Tmp} {ty : TypeId} {pos : String} {af : Array Edge} {gd : Option (Nat × Bool)}

theorem mp_ok {w : World} {F : Nat → Prop} (hh : HeapOK w (both F H) H) {g : Nat} {ks : List Value} {ds : List D} (hm : Blk.mp g ks ds ∈ H) :
    ∃ (es : Array MapEntry) (clock : Nat), w.heap[g]? = some (.map es clock) ∧ es.size = ks.length ∧ ds.length = ks.length ∧
      (∀ (j : Nat) (k : Value) (e : MapEntry), ks[j]? = some k → es[j]? = some e → e.key = k) ∧
      ∀ (j : Nat) (d : D) (e : MapEntry), ds[j]? = some d → es[j]? = some e → Rep w (both F H) d e.val := hh.each _ hm

theorem run_getObj_map {w : World} {g : Nat} {es : Array MapEntry} {clock : Nat} (h : w.heap[g]? = some (.map es clock)) : (getObj g).run P w = .ok (.map es clock) w := by
  simp [getObj, Sem.run, h]

theorem entries_good {good : Value → Prop} {ks : List Value} {es : Array MapEntry} (hs : es.size = ks.length) (hk : ∀ (j : Nat) (k : Value) (e : MapEntry), ks[j]? = some k → es[j]? = some e → e.key = k) (hg : ∀ k ∈ ks, good k) :
    ∀ e ∈ es.toList, good e.key := fun e he => by
  obtain ⟨j, hj⟩ := List.mem_iff_getElem?.1 he
  have hj' : es[j]? = some e := by rw [← toList_getElem?]; exact hj
  have hlt : j < ks.length := by rw [← hs]; exact (Array.getElem?_eq_some_iff.1 hj').1
  rw [hk j _ e (List.getElem?_eq_getElem hlt) hj']
  exact hg _ (List.getElem_mem hlt)

/-- The body of a look-up, whoever holds the map. -/
theorem run_lookup {w : World} {o : Nat → Prop} {t kt et g : Nat} {good : Value → Prop} {k : Value} {z : Value} {ks : List Value} {ds : List D} {es : Array MapEntry} {clock : Nat} {r : Option D}
    (hu : P.underlying t = some (.map kt et)) (hK : KeyT P kt good) (hz : ∀ w, (zeroValue et).run P w = .ok z w) (hk : good k) (hks : ∀ k ∈ ks, good k) (hnd : ks.Nodup)
    (hh : w.heap[g]? = some (.map es clock)) (hs : es.size = ks.length) (hd : ds.length = ks.length) (hkey : ∀ (j : Nat) (k : Value) (e : MapEntry), ks[j]? = some k → es[j]? = some e → e.key = k)
    (hv : ∀ (j : Nat) (d : D) (e : MapEntry), ds[j]? = some d → es[j]? = some e → Rep w o d e.val) (hr : LookR k ks ds r) :
    ∃ v, (Instr.lookup t (.map (some g)) k true).run P w = .ok (.tuple #[v, .bool r.isSome]) w ∧ (Instr.lookup t (.map (some g)) k false).run P w = .ok v w ∧ Rep w o (r.getD (.v z)) v := by
  have hgood := entries_good hs hkey hks
  rcases hK.find w k es.toList hk hgood with ⟨hf, hne⟩ | ⟨j, e, hf, hj, hek⟩
  · have hrn : r = none := by
      cases r with
      | none => rfl
      | some d =>
        obtain ⟨j, h1, h2, _⟩ := hr.some_
        have hlt : j < es.size := by rw [hs]; exact (List.getElem?_eq_some_iff.1 h1).1
        exact absurd (hkey j k es[j] h1 (Array.getElem?_eq_getElem hlt)) (hne _ (by simp))
    subst hrn
    refine ⟨z, ?_, ?_, .v z⟩
    all_goals simp [Instr.lookup, run_underlying hu, run_getObj_map hh, hK.check w _ k hk, hf, hz]
  · have hj' : es[j]? = some e := by rw [← toList_getElem?]; exact hj
    have hlt : j < ks.length := by rw [← hs]; exact (Array.getElem?_eq_some_iff.1 hj').1
    have hkj : ks[j]? = some k := by rw [List.getElem?_eq_getElem hlt, ← hkey j _ e (List.getElem?_eq_getElem hlt) hj', hek]
    have hrs : ∃ d, r = some d ∧ ds[j]? = some d := by
      cases r with
      | none => exact absurd rfl (hr.none_ k (List.mem_of_getElem? hkj))
      | some d =>
        obtain ⟨i, h1, h2, _⟩ := hr.some_
        have : i = j := by
          have a1 := (List.getElem?_eq_some_iff.1 h1)
          have a2 := (List.getElem?_eq_some_iff.1 hkj)
          exact (List.getElem_inj hnd).1 (a1.2.trans a2.2.symm)
        subst this
        exact ⟨d, rfl, h2⟩
    obtain ⟨d, rfl, hdj⟩ := hrs
    refine ⟨e.val, ?_, ?_, hv j d e hdj hj'⟩
    all_goals simp [Instr.lookup, run_underlying hu, run_getObj_map hh, hK.check w _ k hk, hf]

structure MapT (P : Program) (t kt et : Nat) (z : Value) (good : Value → Prop) : Prop where
  under : P.underlying t = some (.map kt et)
  zero : ∀ w, (zeroValue et).run P w = .ok z w
  key : KeyT P kt good

theorem pure_lookup_ok {x y : Operand} {t kt et g : Nat} {z k : Value} {good : Value → Prop} {kd : D} {ks : List Value} {ds : List D} {r : Option D} (ht : MapT P t kt et z good) (hx : opD env x = some (.v (.map (some g)))) (hy : opD env y = some kd)
    (hk : FlatD kd k) (hgk : good k) (hks : ∀ k ∈ ks, good k) (hnd : ks.Nodup) (hm : Blk.mp g ks ds ∈ H) (hr : LookR k ks ds r) :
    Pure P H ⟨dst, .lookup t x y true, ty, pos, af, gd⟩ env (.tup [r.getD (.v z), .v (.bool r.isSome)]) := pure_of fun w F ρ hh hx' => by
  have e1 := Rep.of_v (hx' x (by simp [Op.operands]) _ hx)
  have e2 := hk.eq (hx' y (by simp [Op.operands]) _ hy)
  obtain ⟨es, clock, h1, h2, h3, h4, h5⟩ := mp_ok hh hm
  obtain ⟨v, hv, _, hrep⟩ := run_lookup (o := both F H) ht.under ht.key ht.zero hgk hks hnd h1 h2 h3 h4 h5 hr
  refine ⟨.tuple #[v, .bool r.isSome], by simp [execOp, e1, e2, hv], .tup _ _ rfl fun j d u hd hu => ?_⟩
  match j with
  | 0 => simp at hd hu; subst hd; subst hu; exact hrep
  | 1 => simp at hd hu; subst hd; subst hu; exact .v _
  | j + 2 => simp at hd

theorem Rep.mp_inv {w : World} {o : Nat → Prop} {ks : List Value} {ds : List D} {u : Value} (h : Rep w o (.mp ks ds) u) :
    ∃ (r : Nat) (es : Array MapEntry) (clock : Nat), u = .map (some r) ∧ w.heap[r]? = some (.map es clock) ∧ es.size = ks.length ∧ ds.length = ks.length ∧
      (∀ (j : Nat) (k : Value) (e : MapEntry), ks[j]? = some k → es[j]? = some e → e.key = k) ∧ ∀ (j : Nat) (d : D) (e : MapEntry), ds[j]? = some d → es[j]? = some e → Rep w o d e.val := by
  cases h with
  | mp _ _ r es clock h1 h2 h3 h4 h5 h6 => exact ⟨r, es, clock, rfl, h1, h3, h4, h5, h6⟩

/-- A map that is only read. -/
theorem pure_lookup_ok_data {x y : Operand} {t kt et : Nat} {z k : Value} {good : Value → Prop} {kd : D} {ks : List Value} {ds : List D} {r : Option D} (ht : MapT P t kt et z good) (hx : opD env x = some (.mp ks ds)) (hy : opD env y = some kd)
    (hk : FlatD kd k) (hgk : good k) (hks : ∀ k ∈ ks, good k) (hnd : ks.Nodup) (hr : LookR k ks ds r) :
    Pure P H ⟨dst, .lookup t x y true, ty, pos, af, gd⟩ env (.tup [r.getD (.v z), .v (.bool r.isSome)]) := pure_of fun w F ρ hh hx' => by
  obtain ⟨g, es, clock, e1, h1, h2, h3, h4, h5⟩ := (hx' x (by simp [Op.operands]) _ hx).mp_inv
  have e2 := hk.eq (hx' y (by simp [Op.operands]) _ hy)
  obtain ⟨v, hv, _, hrep⟩ := run_lookup (o := both F H) ht.under ht.key ht.zero hgk hks hnd h1 h2 h3 h4 h5 hr
  refine ⟨.tuple #[v, .bool r.isSome], by simp [execOp, e1, e2, hv], .tup _ _ rfl fun j d u hd hu => ?_⟩
  match j with
  | 0 => simp at hd hu; subst hd; subst hu; exact hrep
  | 1 => simp at hd hu; subst hd; subst hu; exact .v _
  | j + 2 => simp at hd
end

section
variable {K : Ctx} {Q : Exit → Env → Hp → Prop} {env : Env} {H H' : Hp} {ops : Array Oper} {rest : List Oper} {t : Nat} {ty : TypeId} {pos : String} {af : Array Edge}

theorem TL.makeMap {T : Nat} (hd : Nat.blt t K.n = true)
    (h : ∀ g, TL K ops rest Q (env.put t (some (.v (.map (some g))))) (.mp g [] [] :: H)) : TL K ops (⟨some t, .makeMap T none, ty, pos, af, none⟩ :: rest) Q env H := fun a w hs => by
  unfold wpListIn
  rw [if_pos (by rfl)]
  have e : (execOp a.eval ⟨some t, .makeMap T none, ty, pos, af, none⟩).run K.P w = .ok (.value (.map (some w.heap.size))) (w.alloc (.map #[] 0)) := by
    simp [execOp, Instr.makeMap]
  refine wpIn_ok (fun _ h => by cases h) e ?_
  refine h w.heap.size _ _ (Sat.dst (hs.push (b := .mp w.heap.size [] []) (Kept.alloc _ _ _) (fun g hg => by cases hg; exact Nat.le_refl _) ⟨#[], 0, heap_alloc_new w _, rfl, rfl, fun j k e hk => by simp at hk, fun j d e hd => by simp at hd⟩) (by simpa [Nat.blt_eq] using hd) (.v _))

theorem run_setObj_map {P : Program} {w : World} {g : Nat} {es es' : Array MapEntry} {clock clock' : Nat} (h : w.heap[g]? = some (.map es clock)) :
    (setObj g (.map es' clock')).run P w = .ok () { w with heap := w.heap.setIfInBounds g (.map es' clock') } := by
  simp [setObj, Sem.run, h]

theorem TL.mapUpdate {T kt et g : Nat} {x y v : Operand} {z k : Value} {good : Value → Prop} {kd d : D} {ks ks' : List Value} {ds ds' : List D} (ht : MapT K.P T kt et z good) (hx : opD env x = some (.v (.map (some g)))) (hy : opD env y = some kd) (hv : opD env v = some d)
    (hk : FlatD kd k) (hgk : good k) (hks : ∀ k ∈ ks, good k) (hnd : ks.Nodup) (hset : SetR k d ks ds ks' ds') (hu : UpdR (.mp g ks ds) (.mp g ks' ds') H H')
    (h : TL K ops rest Q env H') : TL K ops (⟨none, .mapUpdate T x y v, ty, pos, af, none⟩ :: rest) Q env H := fun a w hs => by
  unfold wpListIn
  rw [if_pos (by rfl)]
  have e1 := Rep.of_v (hs.eval hx)
  have e2 := hk.eq (hs.eval hy)
  obtain ⟨es, clock, h1, h2, h3, h4, h5⟩ := mp_ok hs.heap hu.mem
  have hgood := entries_good h2 h4 hks
  have hlt : g < w.heap.size := (Array.getElem?_eq_some_iff.1 h1).1
  have hkept : ∀ o, Kept (fun x => some g = some x) w { w with heap := w.heap.setIfInBounds g o } := fun o =>
    ⟨rfl, rfl, rfl, by simp, fun j _ hn => by simp only; rw [Array.getElem?_setIfInBounds_ne (fun e => hn (by rw [e]))]⟩
  have hbb : ∀ g', (Blk.mp g ks' ds').blk = some g' → (Blk.mp g ks ds).blk = some g' ∨ w.heap.size ≤ g' := fun g' hg' => .inl hg'
  have fin : ∀ (es' : Array MapEntry) (clock' : Nat), es'.size = ks'.length → ds'.length = ks'.length → (∀ (j : Nat) (k : Value) (e : MapEntry), ks'[j]? = some k → es'[j]? = some e → e.key = k) →
      (∀ (j : Nat) (d : D) (e : MapEntry), ds'[j]? = some d → es'[j]? = some e → Rep w (both K.F H) d e.val) →
      Sat K env H' (a.put none undef) { w with heap := w.heap.setIfInBounds g (.map es' clock') } := fun es' clock' q1 q2 q3 q4 =>
    Sat.upd (b := .mp g ks ds) (b' := .mp g ks' ds') hs hu hbb (hkept _) ⟨es', clock', by simp [hlt], q1, q2, q3, fun j d e hd he => hs.rep_upd hu hbb (hkept _) (q4 j d e hd he)⟩
  have hrv := hs.eval hv
  rcases ht.key.find w k es.toList hgk hgood with ⟨hf, hne⟩ | ⟨j, e, hf, hj, hek⟩
  · -- a new key
    rcases hset.spec h3 with ⟨hnk, rfl, rfl⟩ | ⟨j, hj, _⟩
    · have e3 : (execOp a.eval ⟨none, .mapUpdate T x y v, ty, pos, af, none⟩).run K.P w = .ok .skip { w with heap := w.heap.setIfInBounds g (.map (es.push { key := k, val := a.eval v, born := clock }) (clock + 1)) } := by
        simp [execOp, Instr.mapUpdate, run_underlying ht.under, e1, e2, run_getObj_map h1, ht.key.check w _ k hgk, hf, run_setObj_map h1]
      refine wpIn_ok (fun _ h => by cases h) e3 ?_
      refine h _ _ (fin _ _ (by simp [h2]) (by simp [h3]) (fun j k' e hk' he => ?_) (fun j d' e hd' he => ?_))
      · by_cases hjl : j < ks.length
        · rw [List.getElem?_append_left hjl] at hk'
          rw [Array.getElem?_push, if_neg (by omega)] at he
          exact h4 j k' e hk' he
        · have hjl' : j = ks.length := by
            have := (List.getElem?_eq_some_iff.1 hk').1
            simp at this; omega
          subst hjl'
          rw [List.getElem?_append_right (by omega)] at hk'
          rw [Array.getElem?_push, if_pos (by omega)] at he
          simp at hk' he
          subst hk'; subst he; rfl
      · by_cases hjl : j < ds.length
        · rw [List.getElem?_append_left hjl] at hd'
          rw [Array.getElem?_push, if_neg (by omega)] at he
          exact h5 j d' e hd' he
        · have hjl' : j = ds.length := by
            have := (List.getElem?_eq_some_iff.1 hd').1
            simp at this; omega
          subst hjl'
          rw [List.getElem?_append_right (by omega)] at hd'
          rw [Array.getElem?_push, if_pos (by omega)] at he
          simp at hd' he
          subst hd'; subst he; exact hrv
    · exfalso
      have hjl : j < es.size := by rw [h2]; exact (List.getElem?_eq_some_iff.1 hj).1
      exact hne es[j] (by simp) (h4 j k es[j] hj (Array.getElem?_eq_getElem hjl))
  · have hj' : es[j]? = some e := by rw [← toList_getElem?]; exact hj
    have hjl : j < ks.length := by rw [← h2]; exact (Array.getElem?_eq_some_iff.1 hj').1
    have hkj : ks[j]? = some k := by rw [List.getElem?_eq_getElem hjl, ← h4 j _ e (List.getElem?_eq_getElem hjl) hj', hek]
    rcases hset.spec h3 with ⟨hnk, _⟩ | ⟨i, hi, rfl, rfl, _⟩
    · exact absurd rfl (hnk k (List.mem_of_getElem? hkj))
    · have hij : i = j := by
        have a1 := (List.getElem?_eq_some_iff.1 hi)
        have a2 := (List.getElem?_eq_some_iff.1 hkj)
        exact (List.getElem_inj hnd).1 (a1.2.trans a2.2.symm)
      subst hij
      have e3 : (execOp a.eval ⟨none, .mapUpdate T x y v, ty, pos, af, none⟩).run K.P w = .ok .skip { w with heap := w.heap.setIfInBounds g (.map (es.modify i fun e => { e with key := k, val := a.eval v }) clock) } := by
        have hkk : ((es[i]?).map (·.key)).getD k = k := by rw [hj']; exact hek
        simp [execOp, Instr.mapUpdate, run_underlying ht.under, e1, e2, run_getObj_map h1, ht.key.check w _ k hgk, hf, hj', hek, ht.key.stays w k hgk, run_setObj_map h1]
      refine wpIn_ok (fun _ h => by cases h) e3 ?_
      refine h _ _ (fin _ _ (by simp [h2]) (by simp [h3]) (fun j k' e hk' he => ?_) (fun j d' e hd' he => ?_))
      · rw [Array.getElem?_modify] at he
        by_cases hji : i = j
        · subst hji
          rw [if_pos rfl, hj'] at he
          rw [hkj] at hk'
          simp at he hk'
          subst he; subst hk'; rfl
        · rw [if_neg hji] at he
          exact h4 j k' e hk' he
      · rw [Array.getElem?_modify] at he
        by_cases hji : i = j
        · subst hji
          rw [if_pos rfl, hj'] at he
          rw [List.getElem?_set_self (by omega)] at hd'
          simp at he hd'
          subst he; subst hd'; exact hrv
        · rw [if_neg hji] at he
          rw [List.getElem?_set_ne hji] at hd'
          exact h5 j d' e hd' he

end
end Go.Ob
