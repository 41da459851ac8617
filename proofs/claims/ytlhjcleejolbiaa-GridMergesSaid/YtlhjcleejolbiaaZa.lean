import Derived.WalkKit
import Derived.RangeFuncLeaves
import Derived.RangeFuncRecord
import Derived.RangeFuncCalls
import Derived.TacticsIn
import Derived.OrdersIn
import Derived.LoopNIn
import Derived.OwnWalkIn
import Derived.Deep.Quiet
import Derived.Laws.AppendOwn
import Derived.Laws.OwnMore
import Derived.Shelf.Unicode.DecodeSlow
import Derived.LoopN
import Derived.Laws.Entries
import Derived.Laws.Slices
import Derived.Laws.Cells
import Derived.IntWalk
import Derived.Laws.CopyRow
import Derived.Maps.AppendAt
import Derived.Laws.StructEq
import Derived.Test.YtlhjcleejolbiaaChecked
import Derived.Deep.Slices
import Derived.ReadAgain
import Derived.OpenShut
import Derived.ProofKit
import Derived.SizedLaws
import Derived.Laws.BytesArg
import Derived.Laws.BitsLemmas
import Derived.Laws.Externs
import Derived.Lib.Overlaps
set_option linter.unusedVariables false
set_option linter.unusedSimpArgs false
set_option linter.unnecessarySimpa false
/- The layer of data over the kit's logic: what values in memory mean as data, when the meaning persists, contracts of functions over data. -/
set_option linter.unusedVariables false
set_option linter.unusedSimpArgs false
set_option linter.unusedSectionVars false
namespace Go.Ob
open Go.RowKit
inductive D where
  | v (x : Value)
  | agg (ds : List D)
  | tup (ds : List D)
  | sl (es : Nat) (xs : List (List D))
  | at_ (cs : List D)
  | fn (f : Nat) (caps : List D)
  | mp (ks : List Value) (ds : List D)
inductive Rep (w : World) (own : Nat → Prop) : D → Value → Prop where
  | v (x : Value) : Rep w own (.v x) x
  | agg (ds : List D) (vs : Array Value) : vs.size = ds.length → (∀ (j : Nat) (u : Value), vs[j]? = some u → u.oneCell' = true) →
      (∀ (j : Nat) (d : D) (u : Value), ds[j]? = some d → vs[j]? = some u → Rep w own d u) → Rep w own (.agg ds) (.agg vs)
  | tup (ds : List D) (vs : Array Value) : vs.size = ds.length →
      (∀ (j : Nat) (d : D) (u : Value), ds[j]? = some d → vs[j]? = some u → Rep w own d u) → Rep w own (.tup ds) (.tuple vs)
  | nil (es : Nat) : Rep w own (.sl es []) (.slice none 0 0)
  | sl (es : Nat) (xs : List (List D)) (a : Addr) (c : Nat) (val : Nat → Nat → Value) : xs.length ≤ c → (∀ x ∈ xs, x.length = es) →
      (xs ≠ [] → ¬ own a.block ∧ a.block < w.heap.size) →
      (∀ (i j : Nat) (x : List D) (d : D), xs[i]? = some x → x[j]? = some d → w.cell? (a.add (i * es + j)) = some (val i j) ∧ (val i j).oneCell' = true) →
      (∀ (i j : Nat) (x : List D) (d : D), xs[i]? = some x → x[j]? = some d → Rep w own d (val i j)) → Rep w own (.sl es xs) (.slice (some a) xs.length c)
  | at_ (cs : List D) (a : Addr) (val : Nat → Value) : cs ≠ [] → ¬ own a.block →
      (∀ (j : Nat) (d : D), cs[j]? = some d → w.cell? (a.add j) = some (val j) ∧ (val j).oneCell' = true) →
      (∀ (j : Nat) (d : D), cs[j]? = some d → Rep w own d (val j)) → Rep w own (.at_ cs) (.pointer (some a))
  | fn (f : Nat) (caps : List D) (vs : Array Value) : vs.size = caps.length →
      (∀ (j : Nat) (d : D) (u : Value), caps[j]? = some d → vs[j]? = some u → Rep w own d u) → Rep w own (.fn f caps) (.func (.func f) #[] vs)
  | mp (ks : List Value) (ds : List D) (r : Nat) (es : Array MapEntry) (clock : Nat) : w.heap[r]? = some (.map es clock) → ¬ own r → es.size = ks.length → ds.length = ks.length →
      (∀ (j : Nat) (k : Value) (e : MapEntry), ks[j]? = some k → es[j]? = some e → e.key = k) →
      (∀ (j : Nat) (d : D) (e : MapEntry), ds[j]? = some d → es[j]? = some e → Rep w own d e.val) → Rep w own (.mp ks ds) (.map (some r))
theorem Addr.block_add (a : Addr) (n : Nat) : (a.add n).block = a.block := by unfold Addr.add; split <;> rfl
theorem add_add (a : Addr) (m n : Nat) : (a.add m).add n = a.add (m + n) := by
  unfold Addr.add
  by_cases hm : m = 0 <;> by_cases hn : n = 0 <;> simp [hm, hn, Nat.add_assoc]
theorem Rep.mono {w w' : World} {own own' : Nat → Prop} {d : D} {u : Value} (hz : w.heap.size ≤ w'.heap.size)
    (hk' : ∀ b, b < w.heap.size → ¬ own b → w'.heap[b]? = w.heap[b]?) (ho : ∀ b, b < w.heap.size → own' b → own b) (h : Rep w own d u) : Rep w' own' d u := by
  induction h with
  | v x => exact .v x
  | agg ds vs hs h1 h ih => exact .agg ds vs hs h1 ih
  | tup ds vs hs h ih => exact .tup ds vs hs ih
  | nil es => exact .nil es
  | sl es xs a c val hc he hb hcell hrep ih =>
    refine .sl es xs a c val hc he (fun hx => ⟨fun h => (hb hx).1 (ho _ (hb hx).2 h), Nat.lt_of_lt_of_le (hb hx).2 hz⟩) (fun i j x d hx hd => ?_) ih
    have hne : xs ≠ [] := by rintro rfl; simp at hx
    have := hcell i j x d hx hd
    rw [World.cell?_of_block (w := w) (w' := w') (by rw [Addr.block_add]; exact hk' _ (hb hne).2 (hb hne).1)]
    exact this
  | at_ cs a val hne hb hcell hrep ih =>
    have hlt : a.block < w.heap.size := by
      cases cs with
      | nil => exact absurd rfl hne
      | cons c cs =>
        have := (hcell 0 c (by simp)).1
        have := block_lt_of_cell this
        rwa [Addr.block_add] at this
    refine .at_ cs a val hne (fun h => hb (ho _ hlt h)) (fun j d hd => ?_) ih
    have := hcell j d hd
    rw [World.cell?_of_block (w := w) (w' := w') (by rw [Addr.block_add]; exact hk' _ hlt hb)]
    exact this
  | fn f caps vs hs h ih => exact .fn f caps vs hs ih
  | mp ks ds r es clock hr hn hs hd hk h ih =>
    have hlt : r < w.heap.size := (Array.getElem?_eq_some_iff.1 hr).1
    exact .mp ks ds r es clock (by rw [hk' r hlt hn]; exact hr) (fun h => hn (ho r hlt h)) hs hd hk ih
theorem Rep.of_v {w : World} {own : Nat → Prop} {x u : Value} (h : Rep w own (.v x) u) : u = x := by cases h; rfl
inductive Blk where
  | box (g : Nat) (t : TypeId) (cs : List D)
  | row (v : Value) (e : TypeId) (es : Nat) (xs : List (List D))
  | mp (g : Nat) (ks : List Value) (ds : List D)
  | obj (g : Nat) (o : Obj)
  /-- a row of which k places in the middle hold nobody knows what -/
  | gap (g cap : Nat) (e : TypeId) (es : Nat) (xs : List (List D)) (k : Nat) (ys : List (List D))
def Blk.blk : Blk → Option Nat
  | .box g _ _ => some g
  | .row v _ _ _ => v.ownBlock
  | .mp g _ _ => some g
  | .obj g _ => some g
  | .gap g _ _ _ _ _ _ => some g
def Blk.ok (w : World) (own : Nat → Prop) : Blk → Prop
  | .box g t cs => ∃ vs : Array Value, w.heap[g]? = some (.cells vs t (0, 0)) ∧ vs.size = cs.length ∧
      ∀ (j : Nat) (d : D) (u : Value), cs[j]? = some d → vs[j]? = some u → u.oneCell' = true ∧ Rep w own d u
  | .row v e es xs => ∃ vals : List Value, w.ownsRow 0 e es v xs.length vals ∧ (∀ x ∈ xs, x.length = es) ∧
      ∀ (j : Nat) (d : D) (u : Value), xs.flatten[j]? = some d → vals[j]? = some u → u.oneCell' = true ∧ Rep w own d u
  | .mp g ks ds => ∃ (es : Array MapEntry) (clock : Nat), w.heap[g]? = some (.map es clock) ∧ es.size = ks.length ∧ ds.length = ks.length ∧
      (∀ (j : Nat) (k : Value) (e : MapEntry), ks[j]? = some k → es[j]? = some e → e.key = k) ∧
      ∀ (j : Nat) (d : D) (e : MapEntry), ds[j]? = some d → es[j]? = some e → Rep w own d e.val
  | .obj g o => o ≠ .deferred (some []) ∧ w.heap[g]? = some o
  | .gap g cap e es xs k ys => ∃ cur : Array Value, w.heap[g]? = some (.cells cur e (0, 0)) ∧ cap ≤ maxLen ∧ cur.size = cap * es ∧ xs.length + k + ys.length ≤ cap ∧ (∀ x ∈ xs, x.length = es) ∧ (∀ y ∈ ys, y.length = es) ∧
      (∀ (j : Nat) (d : D) (u : Value), xs.flatten[j]? = some d → cur.toList[j]? = some u → u.oneCell' = true ∧ Rep w own d u) ∧
      ∀ (j : Nat) (d : D) (u : Value), ys.flatten[j]? = some d → cur.toList[(xs.length + k) * es + j]? = some u → u.oneCell' = true ∧ Rep w own d u
abbrev Hp := List Blk
def own (H : Hp) (g : Nat) : Prop := ∃ b ∈ H, b.blk = some g
def both (F : Nat → Prop) (H : Hp) (g : Nat) : Prop := F g ∨ own H g
structure HeapOK (w : World) (o : Nat → Prop) (H : Hp) : Prop where
  each : ∀ b ∈ H, b.ok w o
  apart : H.Pairwise (fun b b' => ∀ g, b.blk = some g → b'.blk ≠ some g)
structure Kept (S : Nat → Prop) (w w' : World) : Prop where
  os : w'.os = w.os
  tape : w'.tape = w.tape
  output : w'.output = w.output
  size : w.heap.size ≤ w'.heap.size
  block : ∀ k, k < w.heap.size → ¬ S k → w'.heap[k]? = w.heap[k]?
def no : Nat → Prop := fun _ => False
theorem Kept.refl (S : Nat → Prop) (w : World) : Kept S w w := ⟨rfl, rfl, rfl, Nat.le_refl _, fun _ _ _ => rfl⟩
theorem Kept.trans {S : Nat → Prop} {a b c : World} (h : Kept S a b) (k : Kept S b c) : Kept S a c :=
  ⟨k.os.trans h.os, k.tape.trans h.tape, k.output.trans h.output, Nat.le_trans h.size k.size,
   fun i hi hs => (k.block i (Nat.lt_of_lt_of_le hi h.size) hs).trans (h.block i hi hs)⟩
theorem Kept.mono {S S' : Nat → Prop} {w w' : World} (h : Kept S w w') (hs : ∀ b, b < w.heap.size → S b → S' b) : Kept S' w w' :=
  ⟨h.os, h.tape, h.output, h.size, fun k hk hn => h.block k hk (fun x => hn (hs k hk x))⟩
theorem Kept.drew (S : Nat → Prop) (w : World) : Kept S w w.drew := ⟨rfl, rfl, rfl, Nat.le_refl _, fun _ _ _ => rfl⟩
theorem Kept.alloc (S : Nat → Prop) (w : World) (o : Obj) : Kept S w (w.alloc o) :=
  ⟨rfl, rfl, rfl, by simp, fun k hk _ => Below.heap_alloc w o k hk⟩
theorem Kept.below {w w' : World} (h : Kept no w w') : Below w.heap.size w w' := ⟨h.os, h.tape, h.output, h.size, fun k hk => h.block k hk id⟩
theorem Rep.kept {w w' : World} {S own own' : Nat → Prop} {d : D} {u : Value} (h : Rep w own d u) (k : Kept S w w')
    (hS : ∀ b, b < w.heap.size → S b → own b) (ho : ∀ b, b < w.heap.size → own' b → own b) : Rep w' own' d u :=
  h.mono k.size (fun b hb hn => k.block b hb (fun s => hn (hS b hb s))) ho
theorem Blk.blk_lt {w : World} {o : Nat → Prop} {b : Blk} (h : b.ok w o) {g : Nat} (hg : b.blk = some g) : g < w.heap.size := by
  cases b with
  | box g' t cs =>
    obtain ⟨vs, hh, _⟩ := h
    simp only [Blk.blk, Option.some.injEq] at hg
    subst hg
    exact (Array.getElem?_eq_some_iff.1 hh).1
  | row v e es xs =>
    obtain ⟨vals, ho, _⟩ := h
    exact (ho.lt g hg).2
  | mp g' ks ds =>
    obtain ⟨es, clock, hh, _⟩ := h
    simp only [Blk.blk, Option.some.injEq] at hg
    subst hg
    exact (Array.getElem?_eq_some_iff.1 hh).1
  | obj g' ob =>
    simp only [Blk.blk, Option.some.injEq] at hg
    subst hg
    exact (Array.getElem?_eq_some_iff.1 h.2).1
  | gap g' cap e es xs k ys =>
    obtain ⟨cur, hh, _⟩ := h
    simp only [Blk.blk, Option.some.injEq] at hg
    subst hg
    exact (Array.getElem?_eq_some_iff.1 hh).1
theorem own_lt {w : World} {o : Nat → Prop} {H : Hp} (h : HeapOK w o H) {g : Nat} (hg : own H g) : g < w.heap.size := by
  obtain ⟨b, hb, hbg⟩ := hg
  exact Blk.blk_lt (h.each b hb) hbg
theorem ownsRow_same {w w' : World} {base e es : Nat} {v : Value} {n : Nat} {xs : List Value} (h : w.ownsRow base e es v n xs)
    (hk : ∀ g, v.ownBlock = some g → w'.heap[g]? = w.heap[g]?) : w'.ownsRow base e es v n xs := by
  refine ⟨h.1, ?_⟩
  rcases h.2 with hn | ⟨g, cap, cur, rfl, hb, hgg, rest⟩
  · exact .inl hn
  · exact .inr ⟨g, cap, cur, rfl, hb, by rw [hk g rfl]; exact hgg, rest⟩
theorem Blk.ok_mono {w w' : World} {o o' : Nat → Prop} {b : Blk} (h : b.ok w o) (hsame : ∀ g, b.blk = some g → w'.heap[g]? = w.heap[g]?)
    (hr : ∀ d u, Rep w o d u → Rep w' o' d u) : b.ok w' o' := by
  cases b with
  | box g t cs =>
    obtain ⟨vs, hh, hs, hj⟩ := h
    exact ⟨vs, by rw [hsame g rfl]; exact hh, hs, fun j d u hd hu => ⟨(hj j d u hd hu).1, hr _ _ (hj j d u hd hu).2⟩⟩
  | row v e es xs =>
    obtain ⟨vals, ho, he, hj⟩ := h
    exact ⟨vals, ownsRow_same ho hsame, he, fun j d u hd hu => ⟨(hj j d u hd hu).1, hr _ _ (hj j d u hd hu).2⟩⟩
  | mp g ks ds =>
    obtain ⟨es, clock, hh, hs, hd, hk, hj⟩ := h
    exact ⟨es, clock, by rw [hsame g rfl]; exact hh, hs, hd, hk, fun j d e hd he => hr _ _ (hj j d e hd he)⟩
  | obj g ob => exact ⟨h.1, by rw [hsame g rfl]; exact h.2⟩
  | gap g cap e es xs k ys =>
    obtain ⟨cur, hh, hm, hs, hc, h1, h2, h3, h4⟩ := h
    exact ⟨cur, by rw [hsame g rfl]; exact hh, hm, hs, hc, h1, h2, fun j d u hd hu => ⟨(h3 j d u hd hu).1, hr _ _ (h3 j d u hd hu).2⟩, fun j d u hd hu => ⟨(h4 j d u hd hu).1, hr _ _ (h4 j d u hd hu).2⟩⟩
theorem HeapOK.keep {w w' : World} {o o' : Nat → Prop} {H : Hp} (h : HeapOK w o H) (k : Kept no w w') (ho : ∀ b, b < w.heap.size → o' b → o b) : HeapOK w' o' H :=
  ⟨fun b hb => Blk.ok_mono (h.each b hb) (fun _ hg => k.block _ (Blk.blk_lt (h.each b hb) hg) id) (fun _ _ hr => hr.kept k (fun _ _ hf => hf.elim) ho), h.apart⟩
abbrev Env := Nat → Option D
def Env.put (env : Env) (t : Nat) (d : Option D) : Env := fun t' => bif Nat.beq t' t then d else env t'
def Env.putO (env : Env) (t : Option Nat) (d : Option D) : Env := match t with | some t => env.put t d | none => env
def Env.of : List (Nat × D) → Env
  | [] => fun _ => none
  | (t, d) :: l => (Env.of l).put t (some d)
def Env.args : Nat → List D → Env
  | _, [] => fun _ => none
  | k, d :: ds => (Env.args (k + 1) ds).put k (some d)
def opD (env : Env) : Operand → Option D
  | .tmp t => env t
  | .const v => some (.v v)
  | .global g => some (.v (.pointer (some ⟨g, 0, none⟩)))
  | .func f => some (.fn f [])
abbrev fen (r : Option Nat) : Fence := { Fence.wide with round := r }
structure Ctx where
  P : Program
  n : Nat
  w0 : World
  F : Nat → Prop
  S : Nat → Prop
  r : Option Nat
structure DefersOK (B : Nat) (r : Option Nat) (w : World) (l : List Deferred) : Prop where
  inRound : r ≠ none → l = []
  each : ∀ d ∈ l, ∃ g, B ≤ g ∧ d.target = .collected g ∧ w.heap[g]? = some (.deferred (some []))
  apart : l.Pairwise (fun d d' => ∀ g, d.target = .collected g → d'.target ≠ .collected g)
structure GlobOK (P : Program) (w : World) (S : Nat → Prop) : Prop where
  tabs : ∀ a b, P.globalNamed "unicode/utf8.first" = some a → P.globalNamed "unicode/utf8.acceptRanges" = some b → Lib.Utf8Tabs a b w ∧ ¬ S a ∧ ¬ S b
theorem tabs_lt {a b : Nat} {w : World} (h : Lib.Utf8Tabs a b w) : a < w.heap.size ∧ b < w.heap.size :=
  ⟨block_lt_of_cell (h.1 0 (by omega)), block_lt_of_cell (h.2 0 (by omega)).1⟩
theorem tabs_keep {a b : Nat} {w w' : World} {T : Nat → Prop} (h : Lib.Utf8Tabs a b w) (k : Kept T w w') (ha : ¬ T a) (hb : ¬ T b) : Lib.Utf8Tabs a b w' :=
  ⟨fun c hc => by rw [World.cell?_of_block (w := w) (w' := w') (k.block _ (tabs_lt h).1 ha)]; exact h.1 c hc,
   fun i hi => ⟨by rw [World.cell?_of_block (w := w) (w' := w') (k.block _ (tabs_lt h).2 hb)]; exact (h.2 i hi).1, by rw [World.cell?_of_block (w := w) (w' := w') (k.block _ (tabs_lt h).2 hb)]; exact (h.2 i hi).2⟩⟩
theorem GlobOK.move {P : Program} {w w' : World} {S S' T : Nat → Prop} (h : GlobOK P w S) (k : Kept T w w') (hT : ∀ g, T g → S g ∨ ∃ o, w.heap[g]? = some (.loop o)) (hS : ∀ g, S' g → S g ∨ w.heap.size ≤ g) : GlobOK P w' S' := by
  refine ⟨fun a b ha hb => ?_⟩
  obtain ⟨ht, h1, h2⟩ := h.tabs a b ha hb
  have hl := tabs_lt ht
  have hc : ∀ g, (∃ v, w.cell? ⟨g, 0, none⟩ = some v) → ¬ S g → ¬ T g := fun g ⟨v, hv⟩ hs ht => by
    rcases hT g ht with h | ⟨o, ho⟩
    · exact hs h
    · simp [World.cell?, ho] at hv
  refine ⟨tabs_keep ht k (hc a ⟨_, ht.1 0 (by omega)⟩ h1) (hc b ⟨_, (ht.2 0 (by omega)).1⟩ h2), fun hs => ?_, fun hs => ?_⟩
  · rcases hS a hs with h | h
    · exact h1 h
    · omega
  · rcases hS b hs with h | h
    · exact h2 h
    · omega
theorem GlobOK.less {P : Program} {w : World} {S S' : Nat → Prop} (h : GlobOK P w S) (hS : ∀ g, S' g → S g) : GlobOK P w S' :=
  h.move (Kept.refl no w) (fun _ h => h.elim) (fun g hg => .inl (hS g hg))
theorem GlobOK.none {P : Program} {w : World} {S : Nat → Prop} (h : P.globalNamed "unicode/utf8.first" = none) : GlobOK P w S := ⟨fun a b ha _ => by rw [h] at ha; cases ha⟩
structure Foreign (P : Program) (F : Nat → Prop) (w : World) (S : Nat → Prop) : Prop where
  lt : ∀ g, F g → g < w.heap.size ∧ ¬ S g
  glob : GlobOK P w S
instance {P : Program} {F : Nat → Prop} {w : World} {S : Nat → Prop} : CoeFun (Foreign P F w S) fun _ => ∀ g, F g → g < w.heap.size ∧ ¬ S g := ⟨Foreign.lt⟩
structure Sat (K : Ctx) (env : Env) (H : Hp) (a : Act) (w : World) : Prop where
  tmps : ∀ t d, env t = some d → ∃ u, a.tmps[t]? = some u ∧ Rep w (both K.F H) d u
  size : a.tmps.size = K.n
  defers : DefersOK K.w0.heap.size K.r w a.defers
  heap : HeapOK w (both K.F H) H
  kept : Kept K.S K.w0 w
  fresh : ∀ g, own H g → K.S g ∨ K.w0.heap.size ≤ g
  foreign : Foreign K.P K.F K.w0 K.S
def liftQ (K : Ctx) (Q : Exit → Env → Hp → Prop) (e : Exit) (a : Act) (w : World) : Prop := ∃ env H, Sat K env H a w ∧ Q e env H
def TC (K : Ctx) (c : Code) (Q : Exit → Env → Hp → Prop) (env : Env) (H : Hp) : Prop := ∀ a w, Sat K env H a w → c.wpIn (fen K.r) 0 K.P (liftQ K Q) a w
def TL (K : Ctx) (ops : Array Oper) (l : List Oper) (Q : Exit → Env → Hp → Prop) (env : Env) (H : Hp) : Prop :=
  ∀ a w, Sat K env H a w → wpListIn (fen K.r) 0 K.P ops (liftQ K Q) l a w
def CallD (P : Program) (f : FuncId) (ds : List D) (H : Hp) (R : D → Hp → Prop) : Prop :=
  ∀ (w : World) (F : Nat → Prop) (vs : List Value), vs.length = ds.length → (∀ (j : Nat) (d : D) (u : Value), ds[j]? = some d → vs[j]? = some u → Rep w (both F H) d u) →
    HeapOK w (both F H) H → Foreign P F w (own H) →
    Calls P f vs.toArray w fun e w' => ∃ v r H', e = .returned v ∧ R r H' ∧ Rep w' (both F H') r v ∧ HeapOK w' (both F H') H' ∧ Kept (own H) w w' ∧
      ∀ g, own H' g → own H g ∨ w.heap.size ≤ g
def Fun (P : Program) (f : FuncId) (ds : List D) (r : D) : Prop := CallD P f ds [] fun r' H' => r' = r ∧ H' = []
theorem Blk.no_mark {w : World} {o : Nat → Prop} {b : Blk} (h : b.ok w o) {g : Nat} (hg : b.blk = some g) : w.heap[g]? ≠ some (.deferred (some [])) := by
  cases b with
  | box g' t cs =>
    obtain ⟨vs, hh, _⟩ := h
    simp only [Blk.blk, Option.some.injEq] at hg
    subst hg
    rw [hh]; simp
  | row v e es xs =>
    obtain ⟨vals, ho, _⟩ := h
    rcases ho.2 with hn | ⟨g', cap, cur, rfl, hb, hgg, _⟩
    · rw [hn.1] at hg; cases hg
    · simp only [Blk.blk, Value.ownBlock, Option.some.injEq] at hg
      subst hg
      rw [hgg]; simp
  | mp g' ks ds =>
    obtain ⟨es, clock, hh, _⟩ := h
    simp only [Blk.blk, Option.some.injEq] at hg
    subst hg
    rw [hh]; simp
  | obj g' ob =>
    simp only [Blk.blk, Option.some.injEq] at hg
    subst hg
    rw [h.2]; intro e; exact h.1 (Option.some.inj e)
  | gap g' cap e es xs k ys =>
    obtain ⟨cur, hh, _⟩ := h
    simp only [Blk.blk, Option.some.injEq] at hg
    subst hg
    rw [hh]; simp
theorem own_no_mark {w : World} {o : Nat → Prop} {H : Hp} (h : HeapOK w o H) {g : Nat} (hg : own H g) : w.heap[g]? ≠ some (.deferred (some [])) := by
  obtain ⟨b, hb, hbg⟩ := hg
  exact Blk.no_mark (h.each b hb) hbg
theorem DefersOK.nil (B : Nat) (r : Option Nat) (w : World) : DefersOK B r w [] := ⟨fun _ => rfl, fun _ h => (by cases h), .nil⟩
theorem DefersOK.keep {B : Nat} {r : Option Nat} {w w' : World} {S : Nat → Prop} {l : List Deferred} (h : DefersOK B r w l) (k : Kept S w w') (hS : ∀ g, S g → w.heap[g]? ≠ some (.deferred (some []))) : DefersOK B r w' l := by
  refine ⟨h.inRound, fun d hd => ?_, h.apart⟩
  obtain ⟨g, hB, ht, hg⟩ := h.each d hd
  have hlt : g < w.heap.size := (Array.getElem?_eq_some_iff.1 hg).1
  exact ⟨g, hB, ht, by rw [k.block g hlt (fun hs => hS g hs hg)]; exact hg⟩
theorem Sat.marks {K : Ctx} {env : Env} {H : Hp} {a : Act} {w w' : World} (h : Sat K env H a w) {S : Nat → Prop} (k : Kept S w w') (hS : ∀ g, S g → own H g) : DefersOK K.w0.heap.size K.r w' a.defers :=
  h.defers.keep k (fun g hg => own_no_mark h.heap (hS g hg))
def shutS (B : Nat) (w : World) (g : Nat) : Prop := B ≤ g ∧ w.heap[g]? = some (.deferred (some []))
theorem cell_not_shut {w : World} {a : Addr} {v : Value} {B : Nat} (h : w.cell? a = some v) : ¬ shutS B w a.block := fun hs => by
  simp [World.cell?, hs.2] at h
theorem Rep.shut {w w' : World} {own' : Nat → Prop} {B : Nat} {d : D} {u : Value} (k : Kept (shutS B w) w w') (h : Rep w own' d u) : Rep w' own' d u := by
  have hcell : ∀ (p : Addr) (v : Value), w.cell? p = some v → w'.cell? p = some v := fun p v hv => by
    rw [World.cell?_of_block (w := w) (w' := w') (k.block _ (block_lt_of_cell hv) (cell_not_shut hv))]
    exact hv
  induction h with
  | v x => exact .v x
  | agg ds vs hs h1 h ih => exact .agg ds vs hs h1 ih
  | tup ds vs hs h ih => exact .tup ds vs hs ih
  | nil es => exact .nil es
  | sl es xs a c val hc he hb hcl hrep ih =>
    exact .sl es xs a c val hc he (fun hx => ⟨(hb hx).1, Nat.lt_of_lt_of_le (hb hx).2 k.size⟩) (fun i j x d hx hd => ⟨hcell _ _ (hcl i j x d hx hd).1, (hcl i j x d hx hd).2⟩) ih
  | at_ cs a val hne hb hcl hrep ih => exact .at_ cs a val hne hb (fun j d hd => ⟨hcell _ _ (hcl j d hd).1, (hcl j d hd).2⟩) ih
  | fn f caps vs hs h ih => exact .fn f caps vs hs ih
  | mp ks ds r es clock hr hn hs hd hk h ih =>
    refine .mp ks ds r es clock ?_ hn hs hd hk ih
    rw [k.block r (Array.getElem?_eq_some_iff.1 hr).1 (fun hs => by rw [hs.2] at hr; simp at hr)]
    exact hr
theorem HeapOK.shut {w w' : World} {o : Nat → Prop} {H : Hp} {B : Nat} (h : HeapOK w o H) (k : Kept (shutS B w) w w') : HeapOK w' o H :=
  ⟨fun b hb => Blk.ok_mono (h.each b hb) (fun g hg => k.block g (Blk.blk_lt (h.each b hb) hg) (fun hs => Blk.no_mark (h.each b hb) hg hs.2)) (fun _ _ hr => hr.shut k), h.apart⟩
theorem leaves_of {F : Fence} {n : Nat} {P : Program} {fn : Func} {tmps : Array Value} {R : Ending → World → Prop} {B : Nat} : ∀ (l : List Deferred) (w w0 : World), DefersOK B none w l → Kept (shutS B w0) w0 w →
    (∀ w2, Kept (shutS B w0) w0 w2 → ∃ v, (results fn tmps).run P w2 = .ok v w2 ∧ R (.returned v) w2) → LeavesInM F n P fn tmps R l .returning w
  | [], w, w0, _, k, h => by
    unfold LeavesInM LeavesIn
    exact h w k
  | d :: l, w, w0, hl, k, h => by
    obtain ⟨g, hB, ht, hg⟩ := hl.each d (by simp)
    have hlt : g < w.heap.size := (Array.getElem?_eq_some_iff.1 hg).1
    have h0 : g < w0.heap.size → shutS B w0 g := fun hlt0 => by
      by_cases hs : shutS B w0 g
      · exact hs
      · exact ⟨hB, by rw [← k.block g hlt0 hs]; exact hg⟩
    unfold LeavesInM
    refine ⟨by simp, .inl ⟨g, _, ht, run_takeDeferred hg, ?_⟩⟩
    refine leaves_of l _ w0 ⟨fun h => absurd rfl h, fun d' hd' => ?_, (List.pairwise_cons.1 hl.apart).2⟩ ⟨k.os, k.tape, k.output, by rw [World.putObj_size]; exact k.size, fun b hb hs => ?_⟩ h
    · obtain ⟨g', hB', ht', hg'⟩ := hl.each d' (by simp [hd'])
      have hne : g' ≠ g := fun e => (List.pairwise_cons.1 hl.apart).1 d' hd' g ht (e ▸ ht')
      exact ⟨g', hB', ht', by rw [World.putObj_heap_other hne]; exact hg'⟩
    · have hne : b ≠ g := fun e => hs (e ▸ h0 (e ▸ hb))
      rw [World.putObj_heap_other hne]
      exact k.block b hb hs
section
variable {r : Option Nat} {P : Program} {o : Oper} {a : Act} {w w' : World} {next : Act → World → Prop} {Q : Exit → Act → World → Prop}
theorem wpIn_ok (hd : ∀ c, o.op ≠ .defer c) {res : Result Next} (h : (execOp a.eval o).run P w = res) (hn : o.uponIn (fen r) 0 P a next Q res) : o.wpIn (fen r) 0 P a w next Q := by
  refine ⟨fun _ _ => trivial, ?_⟩
  have e : Oper.semAt (fen r).round a.eval o = execOp a.eval o := by
    cases r with
    | none => simp [Oper.semAt]
    | some l => exact Oper.semAt_some l _ _ hd
  rw [e, h]
  exact hn
theorem calls_fen {f : FuncId} {args : Array Value} {R : Ending → World → Prop} {n : Nat} (h : Calls P f args w R) : CallsIn (fen r) n P f args w R := by
  cases r with
  | none => exact callsIn_wide.2 h
  | some l => exact CallsIn.inRound l (callsIn_wide.2 h)
theorem fen_shallow {n : Nat} : (fen r).depth.isSome = true → 1 ≤ n := fun h => by cases h
end
theorem own_nil (g : Nat) : ¬ own [] g := by rintro ⟨b, hb, _⟩; cases hb
end Go.Ob
/- The rules for the forms of code over data; regions that draw their order. -/
set_option linter.unusedVariables false
set_option linter.unusedSimpArgs false
set_option linter.unusedSectionVars false
namespace Go.Ob
open Go.RowKit
section
variable {K : Ctx} {Q : Exit → Env → Hp → Prop} {env : Env} {H : Hp}
def thenA (K : Ctx) (d : Code) (Q : Exit → Env → Hp → Prop) : Exit → Env → Hp → Prop
  | .normal, env, H => TC K d Q env H
  | e, env, H => Q e env H
def blockA (id : Nat) (Q : Exit → Env → Hp → Prop) : Exit → Env → Hp → Prop
  | .exit id', env, H => if id' = id then Q .normal env H else Q (.exit id') env H
  | e, env, H => Q e env H
theorem TC.mono {c : Code} {Q' : Exit → Env → Hp → Prop} (h : TC K c Q env H) (hq : ∀ e env H, Q e env H → Q' e env H) : TC K c Q' env H :=
  fun a w hs => wpIn_mono (h a w hs) fun e _ _ ⟨env', H', hs', hq'⟩ => ⟨env', H', hs', hq e env' H' hq'⟩
theorem TC.skip (h : Q .normal env H) : TC K .skip Q env H := fun _ _ hs => wpIn_skip ⟨env, H, hs, h⟩
theorem TC.ret (h : Q .ret env H) : TC K .ret Q env H := fun _ _ hs => wpIn_ret ⟨env, H, hs, h⟩
theorem TC.exit {id : Nat} (h : Q (.exit id) env H) : TC K (.exit id) Q env H := fun _ _ hs => wpIn_exit ⟨env, H, hs, h⟩
theorem TC.seq {c d : Code} (h : TC K c (thenA K d Q) env H) : TC K (.seq c d) Q env H := fun a w hs =>
  wpIn_seq (wpIn_mono (h a w hs) fun e a' w' ⟨env', H', hs', hq'⟩ => by
    cases e <;> first | exact hq' a' w' hs' | exact ⟨env', H', hs', hq'⟩)
theorem TC.block {id : Nat} {c : Code} (h : TC K c (blockA id Q) env H) : TC K (.block id c) Q env H := fun a w hs =>
  wpIn_block (wpIn_mono (h a w hs) fun e a' w' ⟨env', H', hs', hq'⟩ => by
    cases e with
    | exit i =>
      simp only [blockA] at hq'
      simp only [Exit.inBlock]
      split at hq'
      · rename_i hi; rw [if_pos hi]; exact ⟨env', H', hs', hq'⟩
      · rename_i hi; rw [if_neg hi]; exact ⟨env', H', hs', hq'⟩
    | _ => exact ⟨env', H', hs', hq'⟩)
theorem Sat.eval {a : Act} {w : World} (h : Sat K env H a w) {x : Operand} {d : D} (hx : opD env x = some d) : Rep w (both K.F H) d (a.eval x) := by
  cases x with
  | tmp t =>
    obtain ⟨u, hu, hr⟩ := h.tmps t d hx
    simpa [Act.eval, hu] using hr
  | const v => simp only [opD, Option.some.injEq] at hx; subst hx; exact .v v
  | global g => simp only [opD, Option.some.injEq] at hx; subst hx; exact .v _
  | func f => simp only [opD, Option.some.injEq] at hx; subst hx; exact .fn f [] #[] rfl (fun j d u hd => by simp at hd)
theorem TC.cond {t : Operand} {x y : Code} {b : Bool} (hb : opD env t = some (.v (.bool b))) (h1 : b = true → TC K x Q env H) (h2 : b = false → TC K y Q env H) :
    TC K (.cond t x y) Q env H := fun a w hs =>
  wpIn_cond_split (Rep.of_v (hs.eval hb)) (fun h => h1 h a w hs) (fun h => h2 h a w hs)
def loopA (I : Nat → Env → Hp → Prop) (Q : Exit → Env → Hp → Prop) (n : Nat) : Exit → Env → Hp → Prop
  | .normal, env, H => ∃ m, m < n ∧ I m env H
  | e, env, H => Q e env H
theorem TC.loop {c : Code} (I : Nat → Env → Hp → Prop) (n : Nat) (h0 : I n env H)
    (hstep : ∀ n env H, I n env H → TC K c (loopA I Q n) env H) : TC K (.loop c) Q env H := by
  have key : ∀ N n env H a w, n < N → I n env H → Sat K env H a w → Code.roundsIn (fen K.r) 0 K.P c (liftQ K Q) N a w := by
    intro N
    induction N with
    | zero => intro n _ _ _ _ h; omega
    | succ N ih =>
      intro n env H a w hn hI hs
      rw [roundsIn_succ]
      refine wpIn_mono (hstep n env H hI a w hs) fun e a' w' ⟨env', H', hs', hq'⟩ => ?_
      cases e with
      | normal =>
        obtain ⟨m, hm, hI'⟩ := hq'
        exact ih m env' H' a' w' (by omega) hI' hs'
      | _ => exact ⟨env', H', hs', hq'⟩
  exact fun a w hs => wpIn_loop_rounds (n + 1) (key (n + 1) n env H a w (by omega) h0 hs)
theorem TC.view {c : Code} {env' : Env} {H' : Hp} (hv : ∀ a w, Sat K env H a w → Sat K env' H' a w) (h : TC K c Q env' H') : TC K c Q env H := fun a w hs => h a w (hv a w hs)
theorem own_mono {H' : Hp} (h : ∀ b, b ∈ H' → b ∈ H) {g : Nat} (hg : own H' g) : own H g := let ⟨b, hb, he⟩ := hg; ⟨b, h b hb, he⟩
theorem both_mono {F : Nat → Prop} {H' : Hp} (h : ∀ b, b ∈ H' → b ∈ H) {g : Nat} (hg : both F H' g) : both F H g := hg.imp id (own_mono h)
theorem Rep.fewer {w : World} {o o' : Nat → Prop} {d : D} {u : Value} (h : Rep w o d u) (ho : ∀ g, o' g → o g) : Rep w o' d u :=
  h.mono (Nat.le_refl _) (fun _ _ _ => rfl) (fun b _ => ho b)
theorem Blk.ok_fewer {w : World} {o o' : Nat → Prop} {b : Blk} (h : b.ok w o) (ho : ∀ g, o' g → o g) : b.ok w o' :=
  Blk.ok_mono h (fun _ _ => rfl) (fun _ _ hr => hr.fewer ho)
theorem HeapOK.sub {w : World} {o o' : Nat → Prop} {H' : Hp} (h : HeapOK w o H) (hs : H'.Sublist H) (ho : ∀ g, o' g → o g) : HeapOK w o' H' :=
  ⟨fun b hb => Blk.ok_fewer (h.each b (hs.subset hb)) ho, h.apart.sublist hs⟩
theorem Sat.forget {a : Act} {w : World} {env' : Env} {H' : Hp} (h : Sat K env H a w) (he : ∀ t d, env' t = some d → env t = some d) (hH : H'.Sublist H) : Sat K env' H' a w :=
  ⟨fun t d hd => let ⟨u, hu, hr⟩ := h.tmps t d (he t d hd); ⟨u, hu, hr.fewer fun _ => both_mono fun _ => (hH.subset ·)⟩, h.size, h.defers,
   h.heap.sub hH (fun _ => both_mono fun _ => (hH.subset ·)), h.kept, fun g hg => h.fresh g (own_mono (fun _ => (hH.subset ·)) hg), h.foreign⟩
theorem TC.forget {c : Code} {env' : Env} {H' : Hp} (he : ∀ t d, env' t = some d → env t = some d) (hH : H'.Sublist H) (h : TC K c Q env' H') : TC K c Q env H :=
  TC.view (fun _ _ hs => hs.forget he hH) h
theorem Env.of_le {l : List (Nat × D)} {env : Env} (h : ∀ p ∈ l, env p.1 = some p.2) : ∀ t d, Env.of l t = some d → env t = some d := by
  induction l with
  | nil => intro t d hd; simp [Env.of] at hd
  | cons p l ih =>
    intro t d hd
    obtain ⟨t', d'⟩ := p
    simp only [Env.of, Env.put] at hd
    by_cases ht : t = t'
    · subst ht
      simp only [Nat.beq_refl, cond_true, Option.some.injEq] at hd
      subst hd
      exact h (t, d') (by simp)
    · have hb : Nat.beq t t' = false := by
        cases hb : Nat.beq t t' with
        | false => rfl
        | true => exact absurd (Nat.eq_of_beq_eq_true hb) ht
      rw [hb] at hd
      exact ih (fun p hp => h p (by simp [hp])) t d hd
theorem TC.slots {c : Code} (l : List (Nat × D)) (H' : Hp) (he : ∀ p ∈ l, env p.1 = some p.2) (hH : H'.Sublist H) (h : TC K c Q (Env.of l) H') : TC K c Q env H :=
  TC.forget (Env.of_le he) hH h
theorem TC.region {id : Nat} {l : List Oper} (h : TL K l.toArray l Q env H) : TC K (.region id l.toArray false) Q env H := fun a w hs => wpIn_region_lit (h a w hs)
theorem TL.nil {ops : Array Oper} (h : Q .normal env H) : TL K ops [] Q env H := fun _ _ hs => wpListIn_nil ⟨env, H, hs, h⟩
theorem TL.nil' {ops : Array Oper} {c : Code} (h : TC K c Q env H) : TL K ops [] (thenA K c Q) env H := TL.nil h
theorem Sat.wanted {a : Act} {w : World} (h : Sat K env H a w) {t : Nat} {c : Bool} (ht : env t = some (.v (.bool c))) : a.tmps[t]? = some (.bool c) := by
  obtain ⟨u, hu, hr⟩ := h.tmps t _ ht
  rw [hu, Rep.of_v hr]
theorem Env.put_some {env : Env} {t t' : Nat} {od : Option D} {d : D} (h : (env.put t od) t' = some d) : (t' = t ∧ od = some d) ∨ (t' ≠ t ∧ env t' = some d) := by
  unfold Env.put at h
  by_cases ht : t' = t
  · subst ht
    simp only [Nat.beq_refl, cond_true] at h
    exact .inl ⟨rfl, h⟩
  · have hb : Nat.beq t' t = false := by
      cases hb : Nat.beq t' t with
      | false => rfl
      | true => exact absurd (Nat.eq_of_beq_eq_true hb) ht
    rw [hb] at h
    exact .inr ⟨ht, h⟩
theorem Sat.put {a : Act} {w w' : World} {dst : Option Nat} {od : Option D} {v : Value} (h : Sat K env H a w) (k : Kept no w w')
    (hd : ∀ t, dst = some t → t < K.n) (hv : ∀ d, od = some d → Rep w' (both K.F H) d v) : Sat K (env.putO dst od) H (a.put dst v) w' := by
  have hkeep : ∀ d u, Rep w (both K.F H) d u → Rep w' (both K.F H) d u := fun d u hr => hr.kept k (fun _ _ hf => hf.elim) (fun _ _ h => h)
  refine ⟨fun t d ht => ?_, ?_, ?_, h.heap.keep k (fun _ _ h => h), h.kept.trans (k.mono fun _ _ hf => hf.elim), h.fresh, h.foreign⟩
  · cases dst with
    | none =>
      obtain ⟨u, hu, hr⟩ := h.tmps t d ht
      exact ⟨u, hu, hkeep _ _ hr⟩
    | some t0 =>
      rcases Env.put_some ht with ⟨rfl, ho⟩ | ⟨hne, ho⟩
      · exact ⟨v, by simp [Act.put, h.size, hd t rfl], hv d ho⟩
      · obtain ⟨u, hu, hr⟩ := h.tmps t d ho
        exact ⟨u, by simp only [Act.put]; rw [Array.getElem?_setIfInBounds_ne (Ne.symm hne)]; exact hu, hkeep _ _ hr⟩
  · cases dst <;> simp [Act.put, h.size]
  · cases dst <;> exact h.marks k (fun _ hf => hf.elim)
def Pure (P : Program) (H : Hp) (o : Oper) (env : Env) (d : D) : Prop :=
  ∀ (w : World) (F : Nat → Prop) (a : Act), HeapOK w (both F H) H → Foreign P F w (own H) →
    (∀ x ∈ o.op.operands, ∀ dx, opD env x = some dx → Rep w (both F H) dx (a.eval x)) →
    ∀ (r : Option Nat) (next : Act → World → Prop) (Q : Exit → Act → World → Prop), (∀ v w', Rep w' (both F H) d v → Kept no w w' → next (a.put o.dst v) w') → o.wpIn (fen r) 0 P a w next Q
theorem Sat.F_lt {a : Act} {w : World} (h : Sat K env H a w) : Foreign K.P K.F w (own H) := ⟨fun g hg =>
  ⟨Nat.lt_of_lt_of_le (h.foreign g hg).1 h.kept.size, fun ho => by
    rcases h.fresh g ho with hs | hs
    · exact (h.foreign g hg).2 hs
    · have := (h.foreign g hg).1; omega⟩, h.foreign.glob.move h.kept (fun _ h => .inl h) h.fresh⟩
theorem Pure.wp {o : Oper} {d : D} (hp : Pure K.P H o env d) {a : Act} {w : World} (hs : Sat K env H a w) (hd : ∀ t, o.dst = some t → t < K.n)
    {next : Act → World → Prop} {Q' : Exit → Act → World → Prop} (h : ∀ a' w', Sat K (env.putO o.dst (some d)) H a' w' → next a' w') : o.wpIn (fen K.r) 0 K.P a w next Q' :=
  hp w K.F a hs.heap hs.F_lt (fun _ _ _ hx => hs.eval hx) K.r next Q' fun v w' hr k => h _ _ (hs.put k hd fun d' hd' => by cases hd'; exact hr)
def boolIs : Value → Bool → Bool
  | .bool c, want => c == want
  | _, _ => false
theorem Sat.val {a : Act} {w : World} (hs : Sat K env H a w) {t : Nat} {x : Value} (h : env t = some (.v x)) : a.tmps[t]? = some x := by
  obtain ⟨u, hu, hr⟩ := hs.tmps t _ h
  rw [hu, Rep.of_v hr]
def Want (ops : Array Oper) (o : Oper) (env : Env) (b : Bool) : Prop :=
  match o.guard with
  | none => b = true
  | some (j, want) => ∃ t x, (ops[j]?).bind (·.dst) = some t ∧ env t = some (.v x) ∧ b = boolIs x want
theorem Want.wanted {ops : Array Oper} {o : Oper} {b : Bool} (h : Want ops o env b) {a : Act} {w : World} (hs : Sat K env H a w) : Region.wanted o (yielded ops a.tmps) = b := by
  unfold Want at h
  unfold Region.wanted
  cases hg : o.guard with
  | none => simp only [hg] at h; exact h.symm
  | some p =>
    obtain ⟨j, want⟩ := p
    simp only [hg] at h
    obtain ⟨t, x, ht, hc, hb⟩ := h
    subst hb
    have := hs.val hc
    simp only [yielded, ht, Option.bind_some, this]
    cases x <;> rfl
theorem TL.run {ops : Array Oper} {o : Oper} {rest : List Oper} {d : D} (hw : Want ops o env true) (hp : Pure K.P H o env d) (hd : ∀ t, o.dst = some t → t < K.n)
    (h : TL K ops rest Q (env.putO o.dst (some d)) H) : TL K ops (o :: rest) Q env H := fun a w hs => by
  unfold wpListIn
  rw [if_pos (hw.wanted hs)]
  exact (hp.wp hs hd fun a' w' hs' => h a' w' hs')
theorem TL.pass {ops : Array Oper} {o : Oper} {rest : List Oper} (hw : Want ops o env false) (hd : ∀ t, o.dst = some t → t < K.n)
    (h : TL K ops rest Q (env.putO o.dst (some (.v undef))) H) : TL K ops (o :: rest) Q env H := fun a w hs => by
  unfold wpListIn
  rw [if_neg (by rw [hw.wanted hs]; simp)]
  exact ⟨fun _ _ => trivial, h _ _ (hs.put (Kept.refl _ _) hd (fun d hd => by cases hd; exact .v _))⟩
end
end Go.Ob
/- A region that draws its order, all of whose operations only read: one walk in the order of the text serves every order. -/
set_option linter.unusedVariables false
set_option linter.unusedSimpArgs false
set_option linter.unusedSectionVars false
namespace Go.Ob
open Go.RowKit
section
variable {P : Program} {ops : Array Oper} {md : Region.Mode} {H : Hp} {n : Nat}
theorem Env.put_other {env : Env} {t : Nat} {od : Option D} {t' : Nat} (h : t' ≠ t) : (env.put t od) t' = env t' := by
  unfold Env.put
  have hb : Nat.beq t' t = false := by
    cases hb : Nat.beq t' t with
    | false => rfl
    | true => exact absurd (Nat.eq_of_beq_eq_true hb) h
  rw [hb]; rfl
theorem Env.put_same {env : Env} {t : Nat} {od : Option D} : (env.put t od) t = od := by
  unfold Env.put
  rw [Nat.beq_refl]; rfl
theorem Env.putO_comm (env : Env) {x y : Option Nat} (u v : Option D) (h : ∀ d, x = some d → y ≠ some d) : (env.putO x u).putO y v = (env.putO y v).putO x u := by
  cases x with
  | none => rfl
  | some d =>
    cases y with
    | none => rfl
    | some e =>
      have hne : e ≠ d := fun he => h d rfl (he ▸ rfl)
      funext t
      simp only [Env.putO]
      by_cases ht : t = e
      · subst ht; rw [Env.put_same, Env.put_other hne, Env.put_same]
      · by_cases htd : t = d
        · subst htd; rw [Env.put_other ht, Env.put_same, Env.put_same]
        · rw [Env.put_other ht, Env.put_other htd, Env.put_other htd, Env.put_other ht]
theorem opD_putO {env : Env} {dst : Option Nat} {od : Option D} {x : Operand} (h : ∀ d, dst = some d → x ≠ .tmp d) : opD (env.putO dst od) x = opD env x := by
  cases dst with
  | none => rfl
  | some d =>
    cases x with
    | tmp t =>
      have hne : t ≠ d := fun e => h d rfl (e ▸ rfl)
      simp only [opD, Env.putO]
      exact Env.put_other hne
    | _ => rfl
theorem Pure.congr {o : Oper} {env env' : Env} {d : D} (hp : Pure P H o env d) (h : ∀ x ∈ o.op.operands, opD env' x = opD env x) : Pure P H o env' d :=
  fun w F a hh hF hx r next Q hn => hp w F a hh hF (fun x hxm dx hd => hx x hxm dx (by rw [h x hxm]; exact hd)) r next Q hn
theorem Pure.putO {o : Oper} {env : Env} {d : D} {dst : Option Nat} {od : Option D} (h : ∀ t, dst = some t → t ∉ o.looksAt ops) :
    Pure P H o (env.putO dst od) d ↔ Pure P H o env d := by
  have he : ∀ x ∈ o.op.operands, opD (env.putO dst od) x = opD env x := fun x hx => opD_putO fun t ht hxt => h t ht (by
    subst hxt
    exact List.mem_append_left _ (List.mem_filterMap.2 ⟨.tmp t, by simpa using hx, rfl⟩))
  exact ⟨fun hp => hp.congr fun x hx => (he x hx).symm, fun hp => hp.congr he⟩
theorem Want.putO {o : Oper} {env : Env} {b : Bool} {dst : Option Nat} {od : Option D} (h : ∀ t, dst = some t → t ∉ o.looksAt ops) :
    Want ops o (env.putO dst od) b ↔ Want ops o env b := by
  unfold Want
  cases hg : o.guard with
  | none => exact Iff.rfl
  | some p =>
    obtain ⟨j, want⟩ := p
    simp only
    have hk : ∀ t, (ops[j]?).bind (·.dst) = some t → (env.putO dst od) t = env t := by
      intro t ht
      cases dst with
      | none => rfl
      | some d =>
        simp only [Env.putO]
        refine Env.put_other fun e => h d rfl ?_
        subst e
        refine List.mem_append_right _ ?_
        simp only [hg, ht]
        simp
    constructor
    · rintro ⟨t, c, ht, hc, hb⟩; exact ⟨t, c, ht, by rw [← hk t ht]; exact hc, hb⟩
    · rintro ⟨t, c, ht, hc, hb⟩; exact ⟨t, c, ht, by rw [hk t ht]; exact hc, hb⟩
def stepA (P : Program) (ops : Array Oper) (H : Hp) (n : Nat) (o : Oper) (Kt : Env → Prop) (env : Env) : Prop :=
  (∀ t, o.dst = some t → t < n) ∧
  ((Want ops o env true ∧ ∃ d, Pure P H o env d ∧ Kt (env.putO o.dst (some d))) ∨ (Want ops o env false ∧ Kt (env.putO o.dst (some (.v undef)))))
def qA (P : Program) (ops : Array Oper) (H : Hp) (n : Nat) (i : Nat) (Kt : Env → Prop) (env : Env) : Prop :=
  match ops[i]? with
  | none => Kt env
  | some o => stepA P ops H n o Kt env
def lexA (P : Program) (ops : Array Oper) (H : Hp) (n : Nat) (Q : Env → Prop) : List Oper → Env → Prop
  | [], env => Q env
  | o :: rest, env => stepA P ops H n o (lexA P ops H n Q rest) env
def anyA (P : Program) (md : Region.Mode) (ops : Array Oper) (H : Hp) (n : Nat) (Q : Env → Prop) : Nat → Array Bool → Env → Prop
  | 0, listed, env => Region.ready md ops listed = [] ∧ Q env
  | fuel + 1, listed, env =>
    (Region.ready md ops listed = [] → Q env) ∧
    ∀ i ∈ Region.ready md ops listed, qA P ops H n i (anyA P md ops H n Q fuel (listed.setIfInBounds i true)) env
theorem stepA_mono {o : Oper} {Kt Kt' : Env → Prop} {env : Env} (h : ∀ e, Kt e → Kt' e) (hh : stepA P ops H n o Kt env) : stepA P ops H n o Kt' env :=
  ⟨hh.1, hh.2.imp (fun ⟨hw, d, hp, hk⟩ => ⟨hw, d, hp, h _ hk⟩) (fun ⟨hw, hk⟩ => ⟨hw, h _ hk⟩)⟩
theorem qA_mono {i : Nat} {Kt Kt' : Env → Prop} {env : Env} (h : ∀ e, Kt e → Kt' e) (hh : qA P ops H n i Kt env) : qA P ops H n i Kt' env := by
  unfold qA at *
  split
  · exact h _ (by simpa [*] using hh)
  · rename_i o ho
    simp only [ho] at hh
    exact stepA_mono h hh
def Yields (P : Program) (ops : Array Oper) (H : Hp) (o : Oper) (od : Option D) (env : Env) : Prop :=
  (Want ops o env true ∧ ∃ d, od = some d ∧ Pure P H o env d) ∨ (Want ops o env false ∧ od = some (.v undef))
theorem Yields.putO {o : Oper} {od : Option D} {env : Env} {dst : Option Nat} {od' : Option D} (h : ∀ t, dst = some t → t ∉ o.looksAt ops) :
    Yields P ops H o od (env.putO dst od') ↔ Yields P ops H o od env := by
  unfold Yields
  rw [Want.putO h, Want.putO h]
  constructor
  · rintro (⟨hw, d, hd, hp⟩ | hh)
    · exact .inl ⟨hw, d, hd, (Pure.putO h).1 hp⟩
    · exact .inr hh
  · rintro (⟨hw, d, hd, hp⟩ | hh)
    · exact .inl ⟨hw, d, hd, (Pure.putO h).2 hp⟩
    · exact .inr hh
theorem Yields.qA {i : Nat} {o : Oper} {od : Option D} {env : Env} (hi : ops[i]? = some o) (hn : ∀ t, o.dst = some t → t < n) (hy : Yields P ops H o od env)
    {Kt : Env → Prop} (h : Kt (env.putO o.dst od)) : qA P ops H n i Kt env := by
  unfold Ob.qA
  simp only [hi]
  refine ⟨hn, ?_⟩
  rcases hy with ⟨hw, d, rfl, hp⟩ | ⟨hw, rfl⟩
  · exact .inl ⟨hw, d, hp, h⟩
  · exact .inr ⟨hw, h⟩
theorem yields_of_step {o : Oper} {env : Env} {Kt : Env → Prop} (h : stepA P ops H n o Kt env) : ∃ od, Yields P ops H o od env ∧ Kt (env.putO o.dst od) := by
  rcases h.2 with ⟨hw, d, hp, hk⟩ | ⟨hw, hk⟩
  · exact ⟨some d, .inl ⟨hw, d, rfl, hp⟩, hk⟩
  · exact ⟨some (.v undef), .inr ⟨hw, rfl⟩, hk⟩
theorem qA_put {j : Nat} {oi oj : Oper} {od : Option D} (hj : ops[j]? = some oj) (hap : oi.apart ops oj = true) {Kt : Env → Prop} {env : Env}
    (hy : Yields P ops H oi od env) (h : qA P ops H n j Kt (env.putO oi.dst od)) :
    qA P ops H n j (fun e => Yields P ops H oi od e ∧ Kt (e.putO oi.dst od)) env := by
  obtain ⟨h1, h2, h3⟩ := Oper.apart_spec hap
  unfold qA at *
  simp only [hj] at *
  refine ⟨h.1, ?_⟩
  rcases h.2 with ⟨hw, d, hp, hk⟩ | ⟨hw, hk⟩
  · refine .inl ⟨(Want.putO h1).1 hw, d, (Pure.putO h1).1 hp, (Yields.putO h3).2 hy, ?_⟩
    rw [← Env.putO_comm env od (some d) h2]; exact hk
  · refine .inr ⟨(Want.putO h1).1 hw, (Yields.putO h3).2 hy, ?_⟩
    rw [← Env.putO_comm env od (some (.v undef)) h2]; exact hk
theorem anyA_first {Q : Env → Prop} {i : Nat} {oi : Oper} {od : Option D} (hi : ops[i]? = some oi) (hn : ∀ t, oi.dst = some t → t < n) :
    ∀ (fuel : Nat) (listed : Array Bool) (env : Env),
      (∀ j oj, ops[j]? = some oj → j ≠ i → listed.getD j true = false → (∀ e ∈ oj.after, Region.binds md e = true → e.on ≠ i) → oi.apart ops oj = true) →
      i ∈ Region.ready md ops listed → Yields P ops H oi od env →
      anyA P md ops H n Q fuel (listed.setIfInBounds i true) (env.putO oi.dst od) → anyA P md ops H n Q (fuel + 1) listed env := by
  intro fuel
  induction fuel with
  | zero =>
    intro listed env _ hr hy HH
    refine ⟨fun h => (by rw [h] at hr; cases hr), fun j hj => ?_⟩
    by_cases hji : j = i
    · subst hji; exact hy.qA hi hn HH
    · have := ready_mono hj hji
      rw [HH.1] at this
      cases this
  | succ fuel ih =>
    intro listed env hfree hr hy HH
    refine ⟨fun h => (by rw [h] at hr; cases hr), fun j hj => ?_⟩
    by_cases hji : j = i
    · subst hji; exact hy.qA hi hn HH
    · have h1 := HH.2 j (ready_mono hj hji)
      obtain ⟨hjun, oj, hoj, hall⟩ := mem_ready.1 hj
      have hnot : ∀ e ∈ oj.after, Region.binds md e = true → e.on ≠ i := fun e he hb heq => by
        have h1 := hall e he hb
        have h0 := (mem_ready.1 hr).1
        rw [heq] at h1
        rcases Nat.lt_or_ge i listed.size with h' | h'
        · simp [h'] at h0 h1; rw [h0] at h1; cases h1
        · simp [Array.getElem?_eq_none h'] at h1
      have h2 := qA_put hoj (hfree j oj hoj hji hjun hnot) hy h1
      have hfree' : ∀ k ok, ops[k]? = some ok → k ≠ i → (listed.setIfInBounds j true).getD k true = false →
          (∀ e ∈ ok.after, Region.binds md e = true → e.on ≠ i) → oi.apart ops ok = true := fun k ok hk hki hun hno => by
        refine hfree k ok hk hki ?_ hno
        by_cases hjk : j = k
        · subst hjk; exact hjun
        · rw [getD_set_ne true hjk] at hun; exact hun
      refine qA_mono (fun e h3 => ih (listed.setIfInBounds j true) e hfree' (ready_mono hr (Ne.symm hji)) h3.1 ?_) h2
      rw [Array.setIfInBounds_comm _ _ hji]
      exact h3.2
theorem anyA_lex {Q : Env → Prop} : ∀ (l : List Oper) (k : Nat) (listed : Array Bool) (env : Env), (∀ j, l[j]? = ops[k + j]?) →
    Region.lexFrom md ops l.length k listed = true → lexA P ops H n Q l env → anyA P md ops H n Q l.length listed env
  | [], _, _, _, _, hB, h => ⟨by simpa [Region.lexFrom] using hB, h⟩
  | o :: l, k, listed, env, hl, hB, h => by
    have h0 : ops[k]? = some o := by simpa using (hl 0).symm
    simp only [List.length_cons, Region.lexFrom, Bool.and_eq_true] at hB
    obtain ⟨⟨hr, hf⟩, hB'⟩ := hB
    obtain ⟨od, hy, hK⟩ := yields_of_step (show stepA P ops H n o (lexA P ops H n Q l) env from h)
    exact anyA_first h0 h.1 l.length listed env (Region.free_spec h0 hf) (by simpa using hr) hy
      (anyA_lex l (k + 1) _ _ (fun j => by have := hl (j + 1); simpa [Nat.add_assoc, Nat.add_comm 1 j] using this) hB' hK)
theorem wpAny_of_anyA {K : Ctx} {Q : Env → Prop} {Q' : Exit → Act → World → Prop} (hn : K.n = n) (hQ : ∀ env a w, Q env → Sat K env H a w → Q' .normal a w) :
    ∀ (fuel : Nat) (listed : Array Bool) (env : Env) (a : Act) (w : World), Sat K env H a w →
      anyA K.P md ops H n Q fuel listed env → wpAnyIn (fen K.r) 0 K.P md ops Q' fuel listed a w
  | 0, _, _, _, _, hs, h => ⟨h.1, hQ _ _ _ h.2 hs⟩
  | fuel + 1, _, env, a, w, hs, h => ⟨fun h0 => hQ _ _ _ (h.1 h0) hs, fun i hi => by
    have h1 := h.2 i hi
    unfold qA at h1
    unfold wpOpIn
    split
    · rename_i ho
      simp only [ho] at h1
      exact wpAny_of_anyA hn hQ fuel _ _ _ _ hs h1
    · rename_i o ho
      simp only [ho] at h1
      obtain ⟨hd, h1⟩ := h1
      rcases h1 with ⟨hw, d, hp, hk⟩ | ⟨hw, hk⟩
      · rw [if_pos (hw.wanted hs)]
        exact (hp.wp hs (hn ▸ hd) fun a' w' hs' => wpAny_of_anyA hn hQ fuel _ _ _ _ hs' hk)
      · rw [if_neg (by rw [hw.wanted hs]; simp)]
        exact ⟨fun _ _ => trivial, wpAny_of_anyA hn hQ fuel _ _ _ _ (hs.put (Kept.refl _ _) (hn ▸ hd) (fun d hd => by cases hd; exact .v _)) hk⟩⟩
end
section
variable {K : Ctx} {Q : Exit → Env → Hp → Prop} {env : Env} {H : Hp}
theorem Sat.drew {a : Act} {w : World} (h : Sat K env H a w) : Sat K env H a { w with drawn := w.drawn + 1 } :=
  h.put (dst := none) (od := none) (v := undef) (Kept.drew _ w) (fun _ h => by cases h) (fun _ h => by cases h)
def TD (K : Ctx) (ops : Array Oper) (l : List Oper) (Q : Exit → Env → Hp → Prop) (env : Env) (H : Hp) : Prop := lexA K.P ops H K.n (fun e => Q .normal e H) l env
theorem TC.draw {id : Nat} {l : List Oper} (hm : K.P.follows .mixedOrders = true) (hB : Region.lexB .any l.toArray = true) (h : TD K l.toArray l Q env H) :
    TC K (.region id l.toArray true) Q env H := fun a w hs => by
  simp only [Region.lexB, Bool.and_eq_true] at hB
  refine wpIn_region_any hm (wpAny_of_anyA (n := K.n) (Q := fun e => Q .normal e H) rfl (fun env a w hq hs => ⟨env, H, hs, hq⟩) _ _ _ _ _ hs.drew ?_)
  have := anyA_lex (P := K.P) (H := H) (n := K.n) (md := .any) (Q := fun e => Q .normal e H) l 0 (Array.replicate l.toArray.size false) env (by simp) (by simpa using hB.2) h
  simpa using this
theorem TD.nil {ops : Array Oper} (h : Q .normal env H) : TD K ops [] Q env H := h
theorem TD.nil' {ops : Array Oper} {c : Code} (h : TC K c Q env H) : TD K ops [] (thenA K c Q) env H := h
theorem TD.run {ops : Array Oper} {o : Oper} {rest : List Oper} {d : D} (hw : Want ops o env true) (hp : Pure K.P H o env d) (hd : ∀ t, o.dst = some t → t < K.n)
    (h : TD K ops rest Q (env.putO o.dst (some d)) H) : TD K ops (o :: rest) Q env H := ⟨hd, .inl ⟨hw, d, hp, h⟩⟩
theorem TD.pass {ops : Array Oper} {o : Oper} {rest : List Oper} (hw : Want ops o env false) (hd : ∀ t, o.dst = some t → t < K.n)
    (h : TD K ops rest Q (env.putO o.dst (some (.v undef))) H) : TD K ops (o :: rest) Q env H := ⟨hd, .inr ⟨hw, h⟩⟩
end
end Go.Ob
/- Operations that only read, over data: a lemma each. -/
set_option linter.unusedVariables false
set_option linter.unusedSimpArgs false
set_option linter.unusedSectionVars false
namespace Go.Ob
open Go.RowKit
structure AggT (P : Program) (t n : Nat) : Prop where
  agg : ∀ w, (isAgg t).run P w = .ok true w
  size : ∀ w, (sizeOf t).run P w = .ok n w
structure OneT (P : Program) (t : Nat) : Prop where
  one : ∀ w, (isAgg t).run P w = .ok false w
  size : ∀ w, (sizeOf t).run P w = .ok 1 w
structure SliceT (P : Program) (t e es : Nat) : Prop where
  under : P.underlying t = some (.slice e)
  size : ∀ w, (sizeOf e).run P w = .ok es w
structure FieldT (P : Program) (t f o : Nat) : Prop where
  field : ∃ fs fd n, P.underlying t = some (.struct fs) ∧ fs[f]? = some fd ∧ fd.offset = o ∧ ∀ w, (sizeOf fd.type).run P w = .ok (n + 1) w
def I64 (n : Int) : Prop := -9223372036854775808 ≤ n ∧ n ≤ 9223372036854775807
theorem I64.wrap {n : Int} (h : I64 n) : IntKind.i64.wrap n = n := IntWalk.i64_in n h
inductive DropR : Nat → List D → List D → Prop where
  | zero (cs : List D) : DropR 0 cs cs
  | succ {n : Nat} {c : D} {cs cs' : List D} : DropR n cs cs' → DropR (n + 1) (c :: cs) cs'
inductive TakeR : Nat → List D → List D → Prop where
  | zero (cs : List D) : TakeR 0 cs []
  | succ {n : Nat} {c : D} {cs cs' : List D} : TakeR n cs cs' → TakeR (n + 1) (c :: cs) (c :: cs')
theorem DropR.get {n : Nat} {cs cs' : List D} (h : DropR n cs cs') : ∀ (j : Nat), cs'[j]? = cs[n + j]? := by
  induction h with
  | zero cs => intro j; simp
  | succ _ ih => intro j; rw [ih j, Nat.add_right_comm]; simp
theorem TakeR.get {n : Nat} {cs cs' : List D} (h : TakeR n cs cs') : cs'.length = n ∧ ∀ (j : Nat) (d : D), cs'[j]? = some d → cs[j]? = some d := by
  induction h with
  | zero cs => exact ⟨rfl, fun j d hd => by simp at hd⟩
  | succ h ih =>
    refine ⟨by simp [ih.1], fun j d hd => ?_⟩
    cases j with
    | zero => simpa using hd
    | succ j => simpa using ih.2 j d (by simpa using hd)
section
variable {P : Program} {H : Hp} {env : Env} {dst : Option Tmp} {ty : TypeId} {pos : String} {af : Array Edge} {gd : Option (Nat × Bool)}
theorem pure_of {o : Oper} {d : D} (h : ∀ (w : World) (F : Nat → Prop) (ρ : Operand → Value), HeapOK w (both F H) H → 
    (∀ x ∈ o.op.operands, ∀ dx, opD env x = some dx → Rep w (both F H) dx (ρ x)) → ∃ v, (execOp ρ o).run P w = .ok (.value v) w ∧ Rep w (both F H) d v) (hnd : ∀ c, o.op ≠ .defer c := by intro c h; cases h) : Pure P H o env d := by
  intro w F a hh _ hx r next Q hn
  obtain ⟨v, hr, hv⟩ := h w F a.eval hh hx
  exact wpIn_ok hnd hr (hn v w hv (Kept.refl _ _))
theorem pure_move {x : Operand} {d : D} (h : opD env x = some d) : Pure P H ⟨dst, .move x, ty, pos, af, gd⟩ env d :=
  pure_of fun _ _ ρ _ hx => ⟨ρ x, rfl, hx x (by simp [Op.operands]) d h⟩
theorem pure_assign {x : Operand} {d : D} (h : opD env x = some d) : Pure P H ⟨dst, .assign x, ty, pos, af, gd⟩ env d :=
  pure_of fun _ _ ρ _ hx => ⟨ρ x, rfl, hx x (by simp [Op.operands]) d h⟩
theorem pure_pick_true {c x y : Operand} {d : D} (hc : opD env c = some (.v (.bool true))) (h : opD env x = some d) : Pure P H ⟨dst, .pick c x y, ty, pos, af, gd⟩ env d :=
  pure_of fun w _ ρ _ hx => ⟨ρ x, by simp [execOp, Rep.of_v (hx c (by simp [Op.operands]) _ hc), asBool], hx x (by simp [Op.operands]) d h⟩
theorem pure_pick_false {c x y : Operand} {d : D} (hc : opD env c = some (.v (.bool false))) (h : opD env y = some d) : Pure P H ⟨dst, .pick c x y, ty, pos, af, gd⟩ env d :=
  pure_of fun w _ ρ _ hx => ⟨ρ y, by simp [execOp, Rep.of_v (hx c (by simp [Op.operands]) _ hc), asBool], hx y (by simp [Op.operands]) d h⟩
theorem pure_bin {op : BinOp} {t t2 : TypeId} {x y : Operand} {u v r : Value} (hx : opD env x = some (.v u)) (hy : opD env y = some (.v v))
    (hrun : ∀ w, (do eqGuard op t x y u v; binOp op t u v : Sem Value).run P w = .ok r w) : Pure P H ⟨dst, .binOp op t x y t2, ty, pos, af, gd⟩ env (.v r) :=
  pure_of fun w _ ρ _ h => by
    have e1 := Rep.of_v (h x (by simp [Op.operands]) _ hx)
    have e2 := Rep.of_v (h y (by simp [Op.operands]) _ hy)
    refine ⟨r, ?_, .v r⟩
    have := hrun w
    simp only [execOp, e1, e2]
    rw [Sem.run_bind, this]
    rfl
section ints
variable {t t2 : TypeId} {x y : Operand} {k : IntKind} {a b : Int}
theorem pure_add (hx : opD env x = some (.v (.int .i64 a))) (hy : opD env y = some (.v (.int .i64 b))) (hr : I64 (a + b)) :
    Pure P H ⟨dst, .binOp .add t x y t2, ty, pos, af, gd⟩ env (.v (.int .i64 (a + b))) := pure_bin hx hy fun w => by
  simp [eqGuard, binOp, Op.intArith, hr.wrap]
theorem pure_sub (hx : opD env x = some (.v (.int .i64 a))) (hy : opD env y = some (.v (.int .i64 b))) (hr : I64 (a - b)) :
    Pure P H ⟨dst, .binOp .sub t x y t2, ty, pos, af, gd⟩ env (.v (.int .i64 (a - b))) := pure_bin hx hy fun w => by
  simp [eqGuard, binOp, Op.intArith, hr.wrap]
theorem pure_eql (hx : opD env x = some (.v (.int k a))) (hy : opD env y = some (.v (.int k b))) :
    Pure P H ⟨dst, .binOp .eql t x y t2, ty, pos, af, gd⟩ env (.v (.bool (decide (a = b)))) := pure_bin hx hy fun w => by
  simp [eqGuard, binOp, Op.intCmp]; rfl
theorem pure_neq (hx : opD env x = some (.v (.int k a))) (hy : opD env y = some (.v (.int k b))) :
    Pure P H ⟨dst, .binOp .neq t x y t2, ty, pos, af, gd⟩ env (.v (.bool (decide (a ≠ b)))) := pure_bin hx hy fun w => by
  simp [eqGuard, binOp, Op.intCmp, bne]; rfl
theorem pure_lss (hx : opD env x = some (.v (.int k a))) (hy : opD env y = some (.v (.int k b))) :
    Pure P H ⟨dst, .binOp .lss t x y t2, ty, pos, af, gd⟩ env (.v (.bool (decide (a < b)))) := pure_bin hx hy fun w => by
  simp [eqGuard, binOp, Op.intCmp]
theorem pure_leq (hx : opD env x = some (.v (.int k a))) (hy : opD env y = some (.v (.int k b))) :
    Pure P H ⟨dst, .binOp .leq t x y t2, ty, pos, af, gd⟩ env (.v (.bool (decide (a ≤ b)))) := pure_bin hx hy fun w => by
  simp [eqGuard, binOp, Op.intCmp]
theorem pure_gtr (hx : opD env x = some (.v (.int k a))) (hy : opD env y = some (.v (.int k b))) :
    Pure P H ⟨dst, .binOp .gtr t x y t2, ty, pos, af, gd⟩ env (.v (.bool (decide (b < a)))) := pure_bin hx hy fun w => by
  simp [eqGuard, binOp, Op.intCmp]
theorem pure_geq (hx : opD env x = some (.v (.int k a))) (hy : opD env y = some (.v (.int k b))) :
    Pure P H ⟨dst, .binOp .geq t x y t2, ty, pos, af, gd⟩ env (.v (.bool (decide (b ≤ a)))) := pure_bin hx hy fun w => by
  simp [eqGuard, binOp, Op.intCmp]
end ints
theorem pure_not {t : TypeId} {x : Operand} {b : Bool} (hx : opD env x = some (.v (.bool b))) : Pure P H ⟨dst, .unOp .not t x, ty, pos, af, gd⟩ env (.v (.bool (!b))) :=
  pure_of fun w _ ρ _ h => by
    have e1 := Rep.of_v (h x (by simp [Op.operands]) _ hx)
    exact ⟨_, by simp [execOp, e1, Op.unary], .v _⟩
theorem Rep.tup_get {w : World} {o : Nat → Prop} {ds : List D} {u : Value} (h : Rep w o (.tup ds) u) {i : Nat} {d : D} (hi : ds[i]? = some d) :
    ∃ vs v, u = .tuple vs ∧ vs[i]? = some v ∧ Rep w o d v := by
  cases h with
  | tup _ vs hs hr =>
    have hlt : i < vs.size := by rw [hs]; exact (List.getElem?_eq_some_iff.1 hi).1
    exact ⟨vs, vs[i], rfl, by simp [hlt], hr i d _ hi (by simp [hlt])⟩
theorem pure_extract {x : Operand} {ds : List D} {i : Nat} {d : D} (hx : opD env x = some (.tup ds)) (hi : ds[i]? = some d) :
    Pure P H ⟨dst, .extract x i, ty, pos, af, gd⟩ env d := pure_of fun w _ ρ _ h => by
  obtain ⟨vs, v, e, hv, hr⟩ := (h x (by simp [Op.operands]) _ hx).tup_get hi
  exact ⟨v, by simp [execOp, e, Instr.extract, hv], hr⟩
theorem Rep.sl_len {w : World} {o : Nat → Prop} {es : Nat} {xs : List (List D)} {u : Value} (h : Rep w o (.sl es xs) u) : ∃ a c, u = .slice a xs.length c := by
  cases h with
  | nil => exact ⟨none, 0, rfl⟩
  | sl _ _ a c => exact ⟨some a, c, rfl⟩
theorem pure_len {x : Operand} {t e es es' : Nat} {xs : List (List D)} (ht : SliceT P t e es) (hx : opD env x = some (.sl es' xs)) :
    Pure P H ⟨dst, .call { callee := .builtin .len, args := #[x], argTypes := #[t] }, ty, pos, af, gd⟩ env (.v (.int .i64 xs.length)) := pure_of fun w _ ρ _ h => by
  obtain ⟨a, c, e1⟩ := (h x (by simp [Op.operands, Call.operands]) _ hx).sl_len
  exact ⟨_, by simp [execOp, resolve, invoke, builtin, Builtin.len_, run_underlying ht.under, e1, goInt], .v _⟩
theorem pure_max {x y : Operand} {a b : Int} {ts : Array TypeId} (hx : opD env x = some (.v (.int .i64 a))) (hy : opD env y = some (.v (.int .i64 b))) :
    Pure P H ⟨dst, .call { callee := .builtin .max, args := #[x, y], argTypes := ts }, ty, pos, af, gd⟩ env (.v (.int .i64 (max a b))) := pure_of fun w _ ρ _ h => by
  have e1 := Rep.of_v (h x (by simp [Op.operands, Call.operands]) _ hx)
  have e2 := Rep.of_v (h y (by simp [Op.operands, Call.operands]) _ hy)
  have hm : (if a < b then b else a) = max a b := by omega
  exact ⟨_, by simp [execOp, resolve, invoke, builtin, Builtin.max_, Builtin.max2, e1, e2, hm], .v _⟩
theorem pure_min {x y : Operand} {a b : Int} {ts : Array TypeId} (hx : opD env x = some (.v (.int .i64 a))) (hy : opD env y = some (.v (.int .i64 b))) :
    Pure P H ⟨dst, .call { callee := .builtin .min, args := #[x, y], argTypes := ts }, ty, pos, af, gd⟩ env (.v (.int .i64 (min a b))) := pure_of fun w _ ρ _ h => by
  have e1 := Rep.of_v (h x (by simp [Op.operands, Call.operands]) _ hx)
  have e2 := Rep.of_v (h y (by simp [Op.operands, Call.operands]) _ hy)
  have hm : (if b < a then b else a) = min a b := by omega
  exact ⟨_, by simp [execOp, resolve, invoke, builtin, Builtin.min_, Builtin.min2, e1, e2, hm], .v _⟩
theorem Rep.sl_at {w : World} {o : Nat → Prop} {es : Nat} {xs : List (List D)} {u : Value} (h : Rep w o (.sl es xs) u) {i : Nat} {x : List D} (hi : xs[i]? = some x) (hx : x ≠ []) :
    ∃ a c, u = .slice (some a) xs.length c ∧ Rep w o (.at_ x) (.pointer (some (a.add (i * es)))) := by
  cases h with
  | nil => simp at hi
  | sl _ _ a c val hc he hb hcell hrep =>
    have hne : xs ≠ [] := by rintro rfl; simp at hi
    refine ⟨a, c, rfl, .at_ x _ (val i) hx ?_ (fun j d hd => ?_) (fun j d hd => hrep i j x d hi hd)⟩
    · rw [Addr.block_add]; exact (hb hne).1
    · rw [add_add]; exact hcell i j x d hi hd
theorem pure_indexAddr {x y : Operand} {t e es : Nat} {xs : List (List D)} {k : IntKind} {i : Int} {c : List D} (ht : SliceT P t e es) (hx : opD env x = some (.sl es xs))
    (hy : opD env y = some (.v (.int k i))) (h0 : 0 ≤ i) (hi : xs[i.toNat]? = some c) (hc : c ≠ []) :
    Pure P H ⟨dst, .indexAddr t x y, ty, pos, af, gd⟩ env (.at_ c) := pure_of fun w _ ρ _ h => by
  obtain ⟨a, cap, e1, hr⟩ := (h x (by simp [Op.operands]) _ hx).sl_at hi hc
  have e2 := Rep.of_v (h y (by simp [Op.operands]) _ hy)
  have hlt : i.toNat < xs.length := (List.getElem?_eq_some_iff.1 hi).1
  have hlt' : i < (xs.length : Int) := by omega
  exact ⟨_, by simp [execOp, Instr.indexAt, e1, e2, asIntOf, run_underlying ht.under, h0, hlt', ht.size], hr⟩
theorem Rep.at_drop {w : World} {o : Nat → Prop} {cs cs' : List D} {u : Value} {n : Nat} (h : Rep w o (.at_ cs) u) (hd : DropR n cs cs') (hne : cs' ≠ []) :
    ∃ a, u = .pointer (some a) ∧ Rep w o (.at_ cs') (.pointer (some (a.add n))) := by
  cases h with
  | at_ _ a val hne' hb hcell hrep =>
    refine ⟨a, rfl, .at_ cs' _ (fun j => val (n + j)) hne (by rw [Addr.block_add]; exact hb) (fun j d hj => ?_) (fun j d hj => ?_)⟩
    · rw [add_add]; exact hcell _ _ (by rw [← hd.get]; exact hj)
    · exact hrep _ _ (by rw [← hd.get]; exact hj)
theorem pure_fieldAddr {x : Operand} {t f o : Nat} {cs cs' : List D} (hf : FieldT P t f o) (hx : opD env x = some (.at_ cs)) (hd : DropR o cs cs') (hne : cs' ≠ []) :
    Pure P H ⟨dst, .fieldAddr t x f, ty, pos, af, gd⟩ env (.at_ cs') := pure_of fun w _ ρ _ h => by
  obtain ⟨fs, fd, n, hu, hfd, ho, hs⟩ := hf.field
  obtain ⟨a, e1, hr⟩ := (h x (by simp [Op.operands]) _ hx).at_drop hd hne
  exact ⟨_, by simp [execOp, Instr.fieldAt, run_underlying hu, hfd, e1, Instr.sureAddr, fieldPlace, hs, ho], hr⟩
theorem pure_fieldAddr_own {x : Operand} {t f o : Nat} {g p : Nat} (hf : FieldT P t f o) (hx : opD env x = some (.v (.pointer (some ⟨g, p, none⟩)))) :
    Pure P H ⟨dst, .fieldAddr t x f, ty, pos, af, gd⟩ env (.v (.pointer (some ⟨g, p + o, none⟩))) := pure_of fun w _ ρ _ h => by
  obtain ⟨fs, fd, n, hu, hfd, ho, hs⟩ := hf.field
  have e1 := Rep.of_v (h x (by simp [Op.operands]) _ hx)
  have e2 : (⟨g, p, none⟩ : Addr).add o = ⟨g, p + o, none⟩ := Addr.add_lit g p o
  exact ⟨_, by simp [execOp, Instr.fieldAt, run_underlying hu, hfd, e1, Instr.sureAddr, fieldPlace, hs, ho, e2], .v _⟩
theorem run_loadCells_vals {P : Program} {w : World} {a : Addr} {n : Nat} {val : Nat → Value} (h : ∀ j, j < n → w.cell? (a.add j) = some (val j)) :
    (loadCells a n).run P w = .ok ((List.range n).map val).toArray w := run_loadCells (P := P) w a n val h
theorem Rep.at_load {w : World} {o : Nat → Prop} {cs ds : List D} {u : Value} {n : Nat} (h : Rep w o (.at_ cs) u) (hd : TakeR n cs ds) {t : Nat} (ht : AggT P t n) :
    ∃ vs, (Instr.loadAt t u).run P w = .ok (.agg vs) w ∧ Rep w o (.agg ds) (.agg vs) := by
  cases h with
  | at_ _ a val hne hb hcell hrep =>
    have hds : ∀ j, j < n → ∃ d, ds[j]? = some d ∧ cs[j]? = some d := fun j hj => by
      have hl := hd.get.1
      exact ⟨ds[j]'(by omega), List.getElem?_eq_getElem (by omega), hd.get.2 _ _ (List.getElem?_eq_getElem (by omega))⟩
    have hc : ∀ j, j < n → w.cell? (a.add j) = some (val j) := fun j hj => let ⟨d, _, hc⟩ := hds j hj; (hcell j d hc).1
    refine ⟨((List.range n).map val).toArray, by simp [Instr.loadAt, Instr.sureAddr, loadVar, ht.agg, ht.size, run_loadCells_vals hc], .agg ds _ (by simp [hd.get.1]) (fun j u hu => ?_) (fun j d u hj hu => ?_)⟩
    · have hjn : j < n := by
        rcases Nat.lt_or_ge j n with h | h
        · exact h
        · simp [h] at hu
      obtain ⟨d, _, hcd⟩ := hds j hjn
      have : u = val j := by simpa [hjn] using hu.symm
      subst this
      exact (hcell j d hcd).2
    have hjn : j < n := by rw [← hd.get.1]; exact (List.getElem?_eq_some_iff.1 hj).1
    have : u = val j := by simpa [hjn] using hu.symm
    subst this
    exact hrep j d (hd.get.2 j d hj)
theorem pure_load {x : Operand} {t n : Nat} {cs ds : List D} (ht : AggT P t n) (hx : opD env x = some (.at_ cs)) (hd : TakeR n cs ds) :
    Pure P H ⟨dst, .load t x, ty, pos, af, gd⟩ env (.agg ds) := pure_of fun w _ ρ _ h => by
  obtain ⟨vs, hr, hv⟩ := (h x (by simp [Op.operands]) _ hx).at_load hd ht
  exact ⟨.agg vs, by simp [execOp, hr], hv⟩
theorem pure_load1 {x : Operand} {t : Nat} {c : D} {cs : List D} (ht : OneT P t) (hx : opD env x = some (.at_ (c :: cs))) :
    Pure P H ⟨dst, .load t x, ty, pos, af, gd⟩ env c := pure_of fun w _ ρ _ h => by
  have hr := h x (by simp [Op.operands]) _ hx
  cases hu : ρ x with
  | pointer p =>
    rw [hu] at hr
    cases hr with
    | at_ _ a val hne hb hcell hrep =>
      have hc := (hcell 0 c rfl).1
      rw [Addr.add_zero'] at hc
      exact ⟨val 0, by simp [execOp, hu, Instr.loadAt, Instr.sureAddr, loadVar, ht.one, hc], hrep 0 c rfl⟩
  | _ => rw [hu] at hr; cases hr
theorem ok_box {w : World} {F : Nat → Prop} {H : Hp} (hh : HeapOK w (both F H) H) {g t : Nat} {cs : List D} (hm : Blk.box g t cs ∈ H) :
    ∃ vs : Array Value, w.heap[g]? = some (.cells vs t (0, 0)) ∧ vs.size = cs.length ∧ ∀ (j : Nat) (d : D) (u : Value), cs[j]? = some d → vs[j]? = some u → u.oneCell' = true ∧ Rep w (both F H) d u :=
  hh.each _ hm
theorem own_add (g o n : Nat) : (⟨g, o, none⟩ : Addr).add n = ⟨g, o + n, none⟩ := Addr.add_lit g o n
theorem pure_load_own {x : Operand} {t t' n g o : Nat} {cs cs' ds : List D} (ht : AggT P t n) (hx : opD env x = some (.v (.pointer (some ⟨g, o, none⟩)))) (hm : Blk.box g t' cs ∈ H)
    (h1 : DropR o cs cs') (h2 : TakeR n cs' ds) : Pure P H ⟨dst, .load t x, ty, pos, af, gd⟩ env (.agg ds) := pure_of fun w F ρ hh h => by
  have e1 := Rep.of_v (h x (by simp [Op.operands]) _ hx)
  obtain ⟨vs, hg, hs, hj⟩ := ok_box hh hm
  have hget : ∀ j d, ds[j]? = some d → cs[o + j]? = some d := fun j d hd => by rw [← h1.get]; exact h2.get.2 j d hd
  have hv : ∀ j, j < n → ∃ d u, ds[j]? = some d ∧ vs[o + j]? = some u ∧ Rep w (both F H) d u := fun j hjn => by
    have hl := h2.get.1
    have hd : ds[j]? = some (ds[j]'(by omega)) := List.getElem?_eq_getElem (by omega)
    have hc := hget _ _ hd
    have hlt : o + j < vs.size := by rw [hs]; exact (List.getElem?_eq_some_iff.1 hc).1
    exact ⟨_, vs[o + j], hd, by simp [hlt], (hj _ _ _ hc (by simp [hlt])).2⟩
  have hc : ∀ j, j < n → w.cell? ((⟨g, o, none⟩ : Addr).add j) = some (vs.getD (o + j) undef) := fun j hjn => by
    obtain ⟨d, u, _, hu, _⟩ := hv j hjn
    rw [own_add, cell_of_row w g (o + j) vs t' (0, 0) hg]
    simp [hu]
  refine ⟨.agg ((List.range n).map fun j => vs.getD (o + j) undef).toArray,
    by simp [execOp, e1, Instr.loadAt, Instr.sureAddr, loadVar, ht.agg, ht.size, run_loadCells_vals hc], .agg ds _ (by simp [h2.get.1]) (fun j u hu => ?_) (fun j d u hd hu => ?_)⟩
  · have hjn : j < n := by
      rcases Nat.lt_or_ge j n with h | h
      · exact h
      · simp [h] at hu
    obtain ⟨d', u', hd', hu', _⟩ := hv j hjn
    have : u = u' := by simpa [hjn, hu'] using hu.symm
    subst this
    exact (hj _ _ _ (hget _ _ hd') hu').1
  have hjn : j < n := by rw [← h2.get.1]; exact (List.getElem?_eq_some_iff.1 hd).1
  obtain ⟨d', u', hd', hu', hr⟩ := hv j hjn
  have : u = u' := by simpa [hjn, hu'] using hu.symm
  subst this
  rw [hd] at hd'
  cases hd'
  exact hr
theorem pure_load1_own {x : Operand} {t t' g o : Nat} {cs cs' : List D} {c : D} (ht : OneT P t) (hx : opD env x = some (.v (.pointer (some ⟨g, o, none⟩)))) (hm : Blk.box g t' cs ∈ H)
    (h1 : DropR o cs (c :: cs')) : Pure P H ⟨dst, .load t x, ty, pos, af, gd⟩ env c := pure_of fun w F ρ hh h => by
  have e1 := Rep.of_v (h x (by simp [Op.operands]) _ hx)
  obtain ⟨vs, hg, hs, hj⟩ := ok_box hh hm
  have hc : cs[o]? = some c := by rw [← Nat.add_zero o, ← h1.get]; rfl
  have hlt : o < vs.size := by rw [hs]; exact (List.getElem?_eq_some_iff.1 hc).1
  have hcell : w.cell? ⟨g, o, none⟩ = some vs[o] := by rw [cell_of_row w g o vs t' (0, 0) hg]; simp [hlt]
  exact ⟨vs[o], by simp [execOp, e1, Instr.loadAt, Instr.sureAddr, loadVar, ht.one, hcell], (hj _ _ _ hc (by simp [hlt])).2⟩
inductive ArgsD (env : Env) : List Operand → List D → Prop where
  | nil : ArgsD env [] []
  | cons {x : Operand} {d : D} {xs : List Operand} {ds : List D} : opD env x = some d → ArgsD env xs ds → ArgsD env (x :: xs) (d :: ds)
theorem ArgsD.rep {xs : List Operand} {ds : List D} (h : ArgsD env xs ds) {w : World} {o : Nat → Prop} {ρ : Operand → Value} (hx : ∀ x ∈ xs, ∀ dx, opD env x = some dx → Rep w o dx (ρ x)) :
    (xs.map ρ).length = ds.length ∧ ∀ (j : Nat) (d : D) (u : Value), ds[j]? = some d → (xs.map ρ)[j]? = some u → Rep w o d u := by
  induction h with
  | nil => exact ⟨rfl, fun j d u hd => by simp at hd⟩
  | @cons x d xs ds h1 h2 ih =>
    obtain ⟨hl, hr⟩ := ih fun y hy => hx y (List.mem_cons_of_mem _ hy)
    refine ⟨by simp [hl], fun j d' u hd hu => ?_⟩
    cases j with
    | zero =>
      simp only [List.getElem?_cons_zero, Option.some.injEq] at hd
      simp only [List.map_cons, List.getElem?_cons_zero, Option.some.injEq] at hu
      subst hd; subst hu
      exact hx x (by simp) d h1
    | succ j =>
      simp only [List.getElem?_cons_succ] at hd
      simp only [List.map_cons, List.getElem?_cons_succ] at hu
      exact hr j d' u hd hu
theorem HeapOK.nil (w : World) (o : Nat → Prop) : HeapOK w o [] := ⟨fun b hb => absurd hb (by simp), List.Pairwise.nil⟩
theorem both_nil_of {F : Nat → Prop} {H : Hp} {g : Nat} (h : both (both F H) [] g) : both F H g := h.elim id (fun h => absurd h (own_nil g))
theorem Fun.use {f : FuncId} {ds : List D} {r : D} (hf : Fun P f ds r) {w : World} {F : Nat → Prop} {vs : List Value} (hh : HeapOK w (both F H) H)
    (hF : Foreign P F w (own H)) (hl : vs.length = ds.length) (hr : ∀ (j : Nat) (d : D) (u : Value), ds[j]? = some d → vs[j]? = some u → Rep w (both F H) d u) :
    Calls P f vs.toArray w fun e w' => ∃ v, e = .returned v ∧ Rep w' (both F H) r v ∧ Kept no w w' := by
  refine (hf w (both F H) vs hl (fun j d u hd hu => (hr j d u hd hu).fewer fun g => both_nil_of) (HeapOK.nil _ _)
    ⟨fun g hg => ⟨hg.elim (fun h => (hF g h).1) (fun h => own_lt hh h), own_nil g⟩, hF.glob.less fun g hg => absurd hg (own_nil g)⟩).mono ?_
  rintro e w' ⟨v, r', H', he, ⟨rfl, rfl⟩, hrep, _, hk, _⟩
  exact ⟨v, he, hrep.fewer fun g hg => .inl hg, hk.mono fun b _ hb => absurd hb (own_nil b)⟩
theorem pure_call {f : FuncId} {args : Array Operand} {ts : Array TypeId} {ds : List D} {r : D} (hf : Fun P f ds r) (ha : ArgsD env args.toList ds)
    (hc : ∀ (as0 : Array Value) (w : World), (callFunc f as0).run P w = .ok (.enter f as0) w) :
    Pure P H ⟨dst, .call { callee := .value (.func f), args := args, argTypes := ts }, ty, pos, af, gd⟩ env r := by
  intro w F a hh hF hx r next Q hn
  obtain ⟨hl, hr⟩ := ha.rep (w := w) (o := both F H) (ρ := a.eval) fun x hxm => hx x (by simp [Op.operands, Call.operands] ; exact .inr (by simpa using hxm))
  have hcall := hf.use hh hF hl hr
  have hrun : (execOp a.eval ⟨dst, .call { callee := .value (.func f), args := args, argTypes := ts }, ty, pos, af, gd⟩).run P w = .ok (.enter f (args.toList.map a.eval).toArray) w := by
    have e3 : (List.map a.eval args.toList).toArray = Array.map a.eval args := by rw [← List.map_toArray]
    simp [execOp, resolve, Deferred.ofValue, Act.eval, invoke, hc, e3]
    done
  refine wpIn_ok (fun _ h => by cases h) hrun ⟨fen_shallow, calls_fen (hcall.mono ?_)⟩
  rintro e w' ⟨v, rfl, hv, hk⟩
  exact hn v w' hv hk
theorem pure_callv {fo : Operand} {f : FuncId} {caps : List D} {args : Array Operand} {ts : Array TypeId} {ds : List D} {r : D} (hfo : opD env fo = some (.fn f caps)) (hf : Fun P f (ds ++ caps) r)
    (ha : ArgsD env args.toList ds) (hc : ∀ (as0 : Array Value) (w : World), (callFunc f as0).run P w = .ok (.enter f as0) w) :
    Pure P H ⟨dst, .call { callee := .value fo, args := args, argTypes := ts }, ty, pos, af, gd⟩ env r := by
  intro w F a hh hF hx r next Q hn
  obtain ⟨hl, hr⟩ := ha.rep (w := w) (o := both F H) (ρ := a.eval) fun x hxm => hx x (by simp [Op.operands, Call.operands] ; exact .inr (by simpa using hxm))
  have hfr := hx fo (by simp [Op.operands, Call.operands]) _ hfo
  cases hu : a.eval fo with
  | func fn first cap =>
    rw [hu] at hfr
    cases hfr with
    | fn _ _ _ hs hcap =>
      have hcall := hf.use (vs := args.toList.map a.eval ++ cap.toList) hh hF (by simp only [List.length_append, hl, Array.length_toList, hs]) (fun j d u hd hu' => by
        by_cases hj : j < ds.length
        · rw [List.getElem?_append_left hj] at hd
          rw [List.getElem?_append_left (by omega)] at hu'
          exact hr j d u hd hu'
        · rw [List.getElem?_append_right (by omega)] at hd
          rw [List.getElem?_append_right (by omega), hl] at hu'
          exact hcap _ d u hd (by simpa using hu'))
      have hrun : (execOp a.eval ⟨dst, .call { callee := .value fo, args := args, argTypes := ts }, ty, pos, af, gd⟩).run P w = .ok (.enter f (args.toList.map a.eval ++ cap.toList).toArray) w := by
        have e3 : (args.toList.map a.eval ++ cap.toList).toArray = Array.map a.eval args ++ cap := by simp
        simp [execOp, resolve, Deferred.ofValue, hu, invoke, hc, e3]
      refine wpIn_ok (fun _ h => by cases h) hrun ⟨fen_shallow, calls_fen (hcall.mono ?_)⟩
      rintro e w' ⟨v, rfl, hv, hk⟩
      exact hn v w' hv hk
  | _ => rw [hu] at hfr; cases hfr
end
end Go.Ob
/- Operations that make or write memory of the call's own; entering and leaving a function. -/
set_option linter.unusedVariables false
set_option linter.unusedSimpArgs false
set_option linter.unusedSectionVars false
namespace Go.Ob
open Go.RowKit
def D.one : D → Bool
  | .v x => x.oneCell'
  | .agg _ => false
  | .tup _ => false
  | _ => true
theorem Rep.one {w : World} {o : Nat → Prop} {d : D} {u : Value} (h : Rep w o d u) (h1 : d.one = true) : u.oneCell' = true := by
  cases h <;> first | exact h1 | rfl | (simp [D.one] at h1)
inductive CellsD : D → List D → Prop where
  | agg (ds : List D) : CellsD (.agg ds) ds
  | one {d : D} : d.one = true → CellsD d [d]
theorem CellsD.rep {d : D} {ds : List D} (h : CellsD d ds) {w : World} {o : Nat → Prop} {u : Value} (hr : Rep w o d u) :
    u.cells.size = ds.length ∧ ∀ (j : Nat) (d' : D) (u' : Value), ds[j]? = some d' → u.cells[j]? = some u' → u'.oneCell' = true ∧ Rep w o d' u' := by
  cases h with
  | agg =>
    cases hr with
    | agg _ vs hs h1 hj => exact ⟨hs, fun j d' u' hd hu => ⟨h1 j u' hu, hj j d' u' hd hu⟩⟩
  | one h1 =>
    have ho := hr.one h1
    have hc : u.cells = #[u] := by cases u <;> first | rfl | (simp [Value.oneCell'] at ho)
    rw [hc]
    refine ⟨rfl, fun j d' u' hd hu => ?_⟩
    cases j with
    | zero =>
      have e1 : d = d' := by simpa using hd
      have e2 : u = u' := by simpa using hu
      subst e1; subst e2
      exact ⟨ho, hr⟩
    | succ j => simp at hd
inductive PutR : Nat → List D → List D → List D → Prop where
  | nil (cs : List D) : PutR 0 [] cs cs
  | here {d c : D} {ds cs cs' : List D} : PutR 0 ds cs cs' → PutR 0 (d :: ds) (c :: cs) (d :: cs')
  | skip {n : Nat} {c : D} {ds cs cs' : List D} : PutR n ds cs cs' → PutR (n + 1) ds (c :: cs) (c :: cs')
theorem PutR.spec {n : Nat} {ds cs cs' : List D} (h : PutR n ds cs cs') : n + ds.length ≤ cs.length ∧ cs' = cs.take n ++ ds ++ cs.drop (n + ds.length) := by
  induction h with
  | nil cs => simp
  | @here d c ds cs cs' _ ih =>
    obtain ⟨h1, h2⟩ := ih
    refine ⟨by simp at h1 ⊢; omega, ?_⟩
    simp only [Nat.zero_add, List.length_cons, List.take_zero, List.nil_append, List.drop_succ_cons, List.cons_append] at h2 ⊢
    rw [h2]
  | @skip n c ds cs cs' _ ih =>
    obtain ⟨h1, h2⟩ := ih
    refine ⟨by simp at h1 ⊢; omega, ?_⟩
    rw [Nat.add_right_comm]
    simp only [List.take_succ_cons, List.drop_succ_cons, List.cons_append]
    rw [h2]
inductive UpdR (b b' : Blk) : Hp → Hp → Prop where
  | here (H : Hp) : UpdR b b' (b :: H) (b' :: H)
  | there (x : Blk) {H H' : Hp} : UpdR b b' H H' → UpdR b b' (x :: H) (x :: H')
theorem UpdR.mem {b b' : Blk} {H H' : Hp} (h : UpdR b b' H H') : b ∈ H := by induction h <;> simp [*]
theorem UpdR.mem' {b b' x : Blk} {H H' : Hp} (h : UpdR b b' H H') (hx : x ∈ H') : x = b' ∨ x ∈ H := by
  induction h with
  | here H => rcases List.mem_cons.1 hx with h | h
              · exact .inl h
              · exact .inr (by simp [h])
  | there y _ ih => rcases List.mem_cons.1 hx with h | h
                    · exact .inr (by simp [h])
                    · exact (ih h).imp id (fun h => by simp [h])
theorem UpdR.other {b b' x : Blk} {H H' : Hp} (h : UpdR b b' H H') (hp : H.Pairwise (fun b b' => ∀ g, b.blk = some g → b'.blk ≠ some g)) (hx : x ∈ H') :
    x = b' ∨ (x ∈ H ∧ ∀ g, b.blk = some g → x.blk ≠ some g) := by
  induction h with
  | here H =>
    rcases List.mem_cons.1 hx with h | h
    · exact .inl h
    · exact .inr ⟨by simp [h], fun g hg => (List.pairwise_cons.1 hp).1 x h g hg⟩
  | there y hu ih =>
    rcases List.mem_cons.1 hx with h | h
    · refine .inr ⟨by simp [h], fun g hg hxg => ?_⟩
      subst h
      exact (List.pairwise_cons.1 hp).1 b hu.mem g hxg hg
    · exact (ih (List.pairwise_cons.1 hp).2 h).imp id (fun ⟨h1, h2⟩ => ⟨by simp [h1], h2⟩)
theorem UpdR.apart {b b' : Blk} {H H' : Hp} (h : UpdR b b' H H') (hp : H.Pairwise (fun b b' => ∀ g, b.blk = some g → b'.blk ≠ some g))
    (hn : ∀ x ∈ H, ∀ g, b'.blk = some g → x.blk = some g → b.blk = some g) : H'.Pairwise (fun b b' => ∀ g, b.blk = some g → b'.blk ≠ some g) := by
  induction h with
  | here H =>
    obtain ⟨h1, h2⟩ := List.pairwise_cons.1 hp
    refine List.pairwise_cons.2 ⟨fun x hx g hg hxg => ?_, h2⟩
    exact h1 x hx g (hn x (by simp [hx]) g hg hxg) hxg
  | @there y H H' hu ih =>
    obtain ⟨h1, h2⟩ := List.pairwise_cons.1 hp
    refine List.pairwise_cons.2 ⟨fun x hx g hg hxg => ?_, ih h2 fun x hx g hg hxg => hn x (by simp [hx]) g hg hxg⟩
    rcases hu.mem' hx with rfl | hx
    · exact h1 b hu.mem g hg (hn y (by simp) g hxg hg)
    · exact h1 x hx g hg hxg
theorem UpdR.own {b b' : Blk} {H H' : Hp} (h : UpdR b b' H H') {g : Nat} (hg : own H' g) : own H g ∨ b'.blk = some g := by
  obtain ⟨x, hx, hxg⟩ := hg
  rcases h.mem' hx with rfl | hx
  · exact .inr hxg
  · exact .inl ⟨x, hx, hxg⟩
section
variable {K : Ctx} {Q : Exit → Env → Hp → Prop} {env : Env} {H H' : Hp}
theorem Sat.step {a : Act} {w w' : World} (h : Sat K env H a w) (k : Kept (own H) w w') (ho : ∀ g, own H' g → own H g ∨ w.heap.size ≤ g)
    (hh : HeapOK w' (both K.F H') H') : Sat K env H' a w' := by
  refine ⟨fun t d ht => ?_, h.size, h.marks k (fun _ hg => hg), hh, ?_, fun g hg => ?_, h.foreign⟩
  · obtain ⟨u, hu, hr⟩ := h.tmps t d ht
    refine ⟨u, hu, hr.kept k (fun b _ hb => .inr hb) (fun b hb hx => hx.elim .inl fun hx => ?_)⟩
    rcases ho b hx with h | h
    · exact .inr h
    · omega
  · exact ⟨k.os.trans h.kept.os, k.tape.trans h.kept.tape, k.output.trans h.kept.output, Nat.le_trans h.kept.size k.size, fun b hb hs => by
      rw [k.block b (Nat.lt_of_lt_of_le hb h.kept.size) (fun ho => by
        rcases h.fresh b ho with h1 | h1
        · exact hs h1
        · omega)]
      exact h.kept.block b hb hs⟩
  · rcases ho g hg with h1 | h1
    · exact h.fresh g h1
    · exact .inr (Nat.le_trans h.kept.size h1)
theorem HeapOK.push {w w' : World} {F : Nat → Prop} {b : Blk} (hh : HeapOK w (both F H) H) (hF : ∀ g, F g → g < w.heap.size) (k : Kept no w w') (hb : ∀ g, b.blk = some g → w.heap.size ≤ g)
    (hok : b.ok w' (both F (b :: H))) : HeapOK w' (both F (b :: H)) (b :: H) := by
  have ho : ∀ g, g < w.heap.size → both F (b :: H) g → both F H g := by
    rintro g hlt (h | ⟨x, hx, hxg⟩)
    · exact .inl h
    · rcases List.mem_cons.1 hx with rfl | hx
      · have := hb g hxg; omega
      · exact .inr ⟨x, hx, hxg⟩
  refine ⟨fun x hx => ?_, List.pairwise_cons.2 ⟨fun x hx g hg hxg => ?_, hh.apart⟩⟩
  · rcases List.mem_cons.1 hx with rfl | hx
    · exact hok
    · exact Blk.ok_mono (hh.each x hx) (fun _ hg => k.block _ (Blk.blk_lt (hh.each x hx) hg) id) (fun _ _ hr => hr.kept k (fun _ _ hf => hf.elim) ho)
  · have := hb g hg
    have := Blk.blk_lt (hh.each x hx) hxg
    omega
theorem Sat.push {a : Act} {w w' : World} {b : Blk} (h : Sat K env H a w) (k : Kept no w w') (hb : ∀ g, b.blk = some g → w.heap.size ≤ g)
    (hok : b.ok w' (both K.F (b :: H))) : Sat K env (b :: H) a w' :=
  h.step (k.mono fun _ _ hf => hf.elim) (fun g ⟨x, hx, hxg⟩ => by
    rcases List.mem_cons.1 hx with rfl | hx
    · exact .inr (hb g hxg)
    · exact .inl ⟨x, hx, hxg⟩) (h.heap.push (fun g hg => (h.F_lt g hg).1) k hb hok)
theorem Sat.rep_push {a : Act} {w w' : World} {b : Blk} (h : Sat K env H a w) (k : Kept no w w') (hb : ∀ g, b.blk = some g → w.heap.size ≤ g) {d : D} {u : Value}
    (hr : Rep w (both K.F H) d u) : Rep w' (both K.F (b :: H)) d u :=
  hr.kept k (fun _ _ hf => hf.elim) fun g hlt hg => by
    rcases hg with hg | ⟨x, hx, hxg⟩
    · exact .inl hg
    · rcases List.mem_cons.1 hx with rfl | hx
      · have := hb g hxg; omega
      · exact .inr ⟨x, hx, hxg⟩
theorem Sat.dst {a : Act} {w : World} {t : Nat} {d : D} {v : Value} (h : Sat K env H a w) (ht : t < K.n) (hv : Rep w (both K.F H) d v) : Sat K (env.put t (some d)) H (a.put (some t) v) w :=
  h.put (dst := some t) (od := some d) (Kept.refl _ _) (fun t' e => by cases e; exact ht) (fun d' e => by cases e; exact hv)
structure ZeroT (P : Program) (t : Nat) (zs : List Value) : Prop where
  zero : ∃ z, (∀ w, (zeroValue t).run P w = .ok z w) ∧ z.cells = zs.toArray
  one : zs.all Value.oneCell' = true
theorem new_box {w : World} {o : Nat → Prop} {t : Nat} {vs : Array Value} {cs : List D} (hs : vs.size = cs.length)
    (hj : ∀ (j : Nat) (d : D) (u : Value), cs[j]? = some d → vs[j]? = some u → u.oneCell' = true ∧ Rep (w.alloc (.cells vs t)) o d u) : (Blk.box w.heap.size t cs).ok (w.alloc (.cells vs t)) o :=
  ⟨vs, heap_alloc_new w _, hs, hj⟩
variable {ops : Array Oper} {rest : List Oper} {t : Nat} {ty : TypeId} {pos : String} {af : Array Edge}
theorem TL.alloc {T : Nat} {zs : List Value} (hz : ZeroT K.P T zs) (hd : Nat.blt t K.n = true)
    (h : ∀ g, TL K ops rest Q (env.put t (some (.v (.pointer (some ⟨g, 0, none⟩))))) (.box g T (zs.map .v) :: H)) : TL K ops (⟨some t, .alloc T, ty, pos, af, none⟩ :: rest) Q env H := fun a w hs => by
  obtain ⟨z, hrun, hzc⟩ := hz.zero
  unfold wpListIn
  rw [if_pos (by rfl)]
  have e : (execOp a.eval ⟨some t, .alloc T, ty, pos, af, none⟩).run K.P w = .ok (.value (.pointer (some ⟨w.heap.size, 0, none⟩))) (w.alloc (.cells zs.toArray T)) := by
    simp [execOp, Instr.alloc, hrun, newVar, newRow, hzc]
  refine wpIn_ok (fun _ h => by cases h) e ?_
  refine h w.heap.size _ _ (Sat.dst (hs.push (Kept.alloc _ _ _) (fun g hg => by cases hg; exact Nat.le_refl _) (new_box (by simp) fun j d u hd hu => ?_)) (by simpa [Nat.blt_eq] using hd) (.v _))
  simp only [List.getElem?_map, Option.map_eq_some_iff] at hd
  obtain ⟨v, hv, rfl⟩ := hd
  have : v = u := by simpa [hv] using hu
  subst this
  exact ⟨List.all_eq_true.1 hz.one v (List.mem_of_getElem? hv), .v _⟩
theorem TL.box {T : Nat} {x : Operand} {d : D} {cs : List D} (hx : opD env x = some d) (hc : CellsD d cs) (hd : Nat.blt t K.n = true)
    (h : ∀ g, TL K ops rest Q (env.put t (some (.v (.pointer (some ⟨g, 0, none⟩))))) (.box g T cs :: H)) : TL K ops (⟨some t, .box T x, ty, pos, af, none⟩ :: rest) Q env H := fun a w hs => by
  unfold wpListIn
  rw [if_pos (by rfl)]
  have e : (execOp a.eval ⟨some t, .box T x, ty, pos, af, none⟩).run K.P w = .ok (.value (.pointer (some ⟨w.heap.size, 0, none⟩))) (w.alloc (.cells (a.eval x).cells T)) := by
    simp [execOp, Instr.box, newVar, newRow]
  refine wpIn_ok (fun _ h => by cases h) e ?_
  have hk : Kept no w (w.alloc (.cells (a.eval x).cells T)) := Kept.alloc _ _ _
  have hb : ∀ g, (Blk.box w.heap.size T cs).blk = some g → w.heap.size ≤ g := fun g hg => by cases hg; exact Nat.le_refl _
  obtain ⟨h1, h2⟩ := hc.rep (hs.rep_push hk hb (hs.eval hx))
  exact h w.heap.size _ _ (Sat.dst (hs.push hk hb (new_box h1 h2)) (by simpa [Nat.blt_eq] using hd) (.v _))
theorem own_blk {b : Blk} {g : Nat} (hm : b ∈ H) (hg : b.blk = some g) : own H g := ⟨b, hm, hg⟩
theorem Sat.upd {a : Act} {w w' : World} {b b' : Blk} (h : Sat K env H a w) (hu : UpdR b b' H H') (hbb : ∀ g, b'.blk = some g → b.blk = some g ∨ w.heap.size ≤ g)
    (k : Kept (fun g => b.blk = some g) w w') (hok : b'.ok w' (both K.F H')) : Sat K env H' a w' := by
  have hown : ∀ g, own H' g → own H g ∨ w.heap.size ≤ g := fun g hg => by
    rcases hu.own hg with h1 | h1
    · exact .inl h1
    · exact (hbb g h1).imp (own_blk hu.mem) id
  refine h.step (k.mono fun g _ hg => own_blk hu.mem hg) hown ⟨fun x hx => ?_, hu.apart h.heap.apart fun x hx g hg hxg => ?_⟩
  · rcases hu.other h.heap.apart hx with rfl | ⟨hx, hne⟩
    · exact hok
    · refine Blk.ok_mono (h.heap.each x hx) (fun g hg => k.block g (Blk.blk_lt (h.heap.each x hx) hg) fun hb => hne g hb hg) (fun d u hr => ?_)
      refine hr.kept k (fun g _ hg => .inr (own_blk hu.mem hg)) (fun g hlt hg => hg.imp id fun hg => ?_)
      rcases hown g hg with h1 | h1
      · exact h1
      · omega
  · rcases hbb g hg with h1 | h1
    · exact h1
    · have := Blk.blk_lt (h.heap.each x hx) hxg
      omega
theorem Sat.rep_upd {a : Act} {w w' : World} {b b' : Blk} (h : Sat K env H a w) (hu : UpdR b b' H H') (hbb : ∀ g, b'.blk = some g → b.blk = some g ∨ w.heap.size ≤ g)
    (k : Kept (fun g => b.blk = some g) w w') {d : D} {u : Value} (hr : Rep w (both K.F H) d u) : Rep w' (both K.F H') d u :=
  hr.kept k (fun g _ hg => .inr (own_blk hu.mem hg)) (fun g hlt hg => hg.imp id fun hg => by
    rcases hu.own hg with h1 | h1
    · exact h1
    · rcases hbb g h1 with h2 | h2
      · exact own_blk hu.mem h2
      · omega)
theorem Kept.setRow (w : World) (g : Nat) (cs : Array Value) : Kept (fun x => some g = some x) w (w.setRow g cs) :=
  ⟨rfl, rfl, rfl, by simp [World.setRow], fun k _ hk => setRow_other w g k cs (fun e => hk (by rw [e]))⟩
theorem toList_getElem? {α : Type} (a : Array α) (i : Nat) : a.toList[i]? = a[i]? := by simp
theorem Sat.store_wp {T T' g o n : Nat} {x y : Operand} {d : D} {cs cs' ds : List D} (hx : opD env x = some (.v (.pointer (some ⟨g, o, none⟩)))) (hy : opD env y = some d) (hc : CellsD d ds)
    (hn : ∀ w, (sizeOf T).run K.P w = .ok n w) (hl : ds.length = n) (hu : UpdR (.box g T' cs) (.box g T' cs') H H') (hp : PutR o ds cs cs') {a : Act} {w : World} (hs : Sat K env H a w)
    {next : Act → World → Prop} {Q' : Exit → Act → World → Prop} (h : ∀ a' w', Sat K env H' a' w' → next a' w') : (⟨none, .store T x y, ty, pos, af, none⟩ : Oper).wpIn (fen K.r) 0 K.P a w next Q' := by
  have e1 := Rep.of_v (hs.eval hx)
  obtain ⟨h1, h2⟩ := hc.rep (hs.eval hy)
  obtain ⟨vs, hg, hvs, hj⟩ := ok_box hs.heap hu.mem
  obtain ⟨p1, p2⟩ := hp.spec
  have hlen : (a.eval y).cells.toList.length = ds.length := by rw [Array.length_toList]; exact h1
  have honce : ∀ u ∈ (a.eval y).cells.toList, u.oneCell' = true := fun u hu => by
    obtain ⟨j, hju⟩ := List.mem_iff_getElem?.1 hu
    have hlt : j < ds.length := by rw [← hlen]; exact (List.getElem?_eq_some_iff.1 hju).1
    exact (h2 j _ u (List.getElem?_eq_getElem hlt) (by rw [← toList_getElem?]; exact hju)).1
  have hst := run_storeCells_at (P := K.P) g o T' (a.eval y).cells.toList 0 vs w hg (by rw [hlen, hvs]; simpa using p1) honce
  have e : (execOp a.eval ⟨none, .store T x y, ty, pos, af, none⟩).run K.P w = .ok .skip (w.setRow g (vs.toList.take o ++ (a.eval y).cells.toList ++ vs.toList.drop (o + ds.length)).toArray) := by
    rw [hlen] at hst
    simp only [Nat.add_zero] at hst
    simp [execOp, Instr.storeAt, e1, Instr.sureAddr, storeVar, hn, h1, hl, hst]
  refine wpIn_ok (fun _ h => by cases h) e ?_
  have k := Kept.setRow w g (vs.toList.take o ++ (a.eval y).cells.toList ++ vs.toList.drop (o + ds.length)).toArray
  have hbb : ∀ g', (Blk.box g T' cs').blk = some g' → (Blk.box g T' cs).blk = some g' ∨ w.heap.size ≤ g' := fun g' hg' => .inl hg'
  have hrep : ∀ {d u}, Rep w (both K.F H) d u → Rep _ (both K.F H') d u := fun hr => hs.rep_upd hu hbb k hr
  refine h _ _ (Sat.upd (b := .box g T' cs) (b' := .box g T' cs') hs hu hbb k ⟨_, setRow_heap w g vs _ T' _ hg, ?_, fun j d' u' hd' hu' => ?_⟩)
  · have : (vs.toList.take o ++ (a.eval y).cells.toList ++ vs.toList.drop (o + ds.length)).length = cs'.length := by
      rw [p2]
      simp only [List.length_append, List.length_take, List.length_drop, Array.length_toList, h1, hvs]
    simpa using this
  · rw [p2] at hd'
    have hu'' : (vs.toList.take o ++ (a.eval y).cells.toList ++ vs.toList.drop (o + ds.length))[j]? = some u' := by simpa using hu'
    have ho : o ≤ vs.toList.length := by rw [Array.length_toList, hvs]; omega
    by_cases c1 : j < o
    · rw [List.append_assoc, List.getElem?_append_left (by rw [List.length_take]; omega), List.getElem?_take_of_lt c1] at hd' hu''
      obtain ⟨q1, q2⟩ := hj j d' u' hd' (by rw [← toList_getElem?]; exact hu'')
      exact ⟨q1, hrep q2⟩
    · by_cases c2 : j < o + ds.length
      · rw [List.append_assoc, List.getElem?_append_right (by rw [List.length_take]; omega), List.getElem?_append_left (by rw [List.length_take]; omega)] at hd'
        rw [List.append_assoc, List.getElem?_append_right (by rw [List.length_take]; omega), List.getElem?_append_left (by rw [List.length_take, hlen]; omega)] at hu''
        have e3 : min o cs.length = o := by omega
        have e4 : min o vs.toList.length = o := by omega
        rw [List.length_take, e3] at hd'
        rw [List.length_take, e4] at hu''
        obtain ⟨q1, q2⟩ := h2 _ d' u' hd' (by rw [← toList_getElem?]; exact hu'')
        exact ⟨q1, hrep q2⟩
      · have e3 : min o cs.length = o := by omega
        have e4 : min o vs.toList.length = o := by omega
        rw [List.getElem?_append_right (by simp only [List.length_append, List.length_take]; omega), List.getElem?_drop] at hd'
        rw [List.getElem?_append_right (by simp only [List.length_append, List.length_take, hlen]; omega), List.getElem?_drop] at hu''
        simp only [List.length_append, List.length_take, e3, e4, hlen] at hd' hu''
        obtain ⟨q1, q2⟩ := hj _ d' u' hd' (by rw [← toList_getElem?]; exact hu'')
        exact ⟨q1, hrep q2⟩
theorem TL.store {T T' g o n : Nat} {x y : Operand} {d : D} {cs cs' ds : List D} (hx : opD env x = some (.v (.pointer (some ⟨g, o, none⟩)))) (hy : opD env y = some d) (hc : CellsD d ds)
    (hn : ∀ w, (sizeOf T).run K.P w = .ok n w) (hl : ds.length = n) (hu : UpdR (.box g T' cs) (.box g T' cs') H H') (hp : PutR o ds cs cs')
    (h : TL K ops rest Q env H') : TL K ops (⟨none, .store T x y, ty, pos, af, none⟩ :: rest) Q env H := fun a w hs => by
  unfold wpListIn
  rw [if_pos (by rfl)]
  exact hs.store_wp hx hy hc hn hl hu hp fun a' w' hs' => h a' w' hs'
end
end Go.Ob
/- Slices that a call grows; entering and leaving a function; what is made becomes data. -/
set_option linter.unusedVariables false
set_option linter.unusedSimpArgs false
set_option linter.unusedSectionVars false
namespace Go.Ob
open Go.RowKit
theorem flatten_get {α : Type} {es : Nat} (hes : 0 < es) : ∀ (ys : List (List α)), (∀ y ∈ ys, y.length = es) → ∀ j, ys.flatten[j]? = (ys[j / es]?).bind (·[j % es]?)
  | [], _, j => by simp
  | y :: ys, hy, j => by
    have hl : y.length = es := hy y (by simp)
    have ih := flatten_get hes ys (fun z hz => hy z (by simp [hz]))
    by_cases hj : j < es
    · rw [List.flatten_cons, List.getElem?_append_left (by omega), Nat.div_eq_of_lt hj, Nat.mod_eq_of_lt hj]
      simp
    · rw [List.flatten_cons, List.getElem?_append_right (by omega), ih, hl]
      have e1 : j / es = (j - es) / es + 1 := by
        rw [← Nat.add_div_right _ hes]
        congr 1
        omega
      have e2 : j % es = (j - es) % es := by rw [Nat.mod_eq_sub_mod (by omega)]
      rw [e1, e2]
      simp
theorem flatten_len {α : Type} {es : Nat} : ∀ (ys : List (List α)), (∀ y ∈ ys, y.length = es) → ys.flatten.length = ys.length * es
  | [], _ => by simp
  | y :: ys, hy => by
    rw [List.flatten_cons, List.length_append, flatten_len ys (fun z hz => hy z (by simp [hz])), hy y (by simp), List.length_cons, Nat.add_mul, Nat.one_mul, Nat.add_comm]
structure AppT (P : Program) (t e es bytes : Nat) : Prop where
  pos : 0 < es
  under : P.underlying t = some (.slice e)
  size : ∀ w, (sizeOf e).run P w = .ok es w
  info : ∃ i z, P.info? e = some i ∧ i.zero = some z ∧ i.size = es ∧ i.bytes = bytes ∧ z.cells.size = es
theorem AppT.slice {P : Program} {t e es bytes : Nat} (h : AppT P t e es bytes) : SliceT P t e es := ⟨h.under, h.size⟩
theorem Rep.sl_row {w : World} {o : Nat → Prop} {es : Nat} {ys : List (List D)} {u : Value} (hes : 0 < es) (h : Rep w o (.sl es ys) u) :
    (u = .slice none 0 0 ∧ ys = []) ∨ ∃ (a : Addr) (c : Nat) (news : List Value), u = .slice (some a) ys.length c ∧ news.length = ys.length * es ∧ (∀ y ∈ ys, y.length = es) ∧
      (∀ (j : Nat) (v : Value), news[j]? = some v → w.cell? (a.add j) = some v) ∧ (∀ v ∈ news, v.oneCell' = true) ∧
      ∀ (j : Nat) (d : D) (v : Value), ys.flatten[j]? = some d → news[j]? = some v → v.oneCell' = true ∧ Rep w o d v := by
  cases h with
  | nil => exact .inl ⟨rfl, rfl⟩
  | sl _ _ a c val hc he hb hcell hrep =>
    refine .inr ⟨a, c, (List.range (ys.length * es)).map fun j => val (j / es) (j % es), rfl, by simp, he, ?_, ?_, ?_⟩
    all_goals
      have key : ∀ j, j < ys.length * es → ∃ x d, ys[j / es]? = some x ∧ x[j % es]? = some d := by
        intro j hj
        have h1 : j / es < ys.length := Nat.div_lt_of_lt_mul (by rw [Nat.mul_comm]; exact hj)
        have h2 : j % es < ys[j / es].length := by rw [he _ (List.getElem_mem h1)]; exact Nat.mod_lt _ hes
        exact ⟨_, _, List.getElem?_eq_getElem h1, List.getElem?_eq_getElem h2⟩
    · intro j v hv
      have hj : j < ys.length * es := by simpa using (List.getElem?_eq_some_iff.1 hv).1
      obtain ⟨x, d, hx, hd⟩ := key j hj
      have e : v = val (j / es) (j % es) := by simpa [hj] using hv.symm
      have := (hcell _ _ x d hx hd).1
      rw [show j / es * es + j % es = j from by rw [Nat.mul_comm]; exact Nat.div_add_mod j es] at this
      rw [e]; exact this
    · intro v hv
      obtain ⟨j, hj⟩ := List.mem_iff_getElem?.1 hv
      have hlt : j < ys.length * es := by simpa using (List.getElem?_eq_some_iff.1 hj).1
      obtain ⟨x, d, hx, hd⟩ := key j hlt
      have e : v = val (j / es) (j % es) := by simpa [hlt] using hj.symm
      rw [e]; exact (hcell _ _ x d hx hd).2
    · intro j d v hd hv
      have hj : j < ys.length * es := by simpa using (List.getElem?_eq_some_iff.1 hv).1
      have e : v = val (j / es) (j % es) := by simpa [hj] using hv.symm
      rw [flatten_get hes ys he] at hd
      obtain ⟨x, hx, hd⟩ := Option.bind_eq_some_iff.1 hd
      rw [e]
      exact ⟨(hcell _ _ x d hx hd).2, hrep _ _ x d hx hd⟩
theorem run_append_nil_src {P : Program} (w : World) (base : Nat) (t ty e : TypeId) (i : TypeInfo) (size : Nat) (ht : P.underlying t = some (.slice e)) (hi : P.info? e = some i)
    (v : Value) (n : Nat) (xs : List Value) (hown : w.ownsRow base e size v n xs) (c : Nat) : (Builtin.append_ #[t, t] ty #[v, .slice none 0 c]).run P w = .ok v w := by
  rcases hown.2 with ⟨rfl, rfl⟩ | ⟨g, cap, cur, rfl, _, _, hnc, _⟩
  · simp [Builtin.append_, run_underlying ht, sizeOf, typeInfo, hi, Builtin.lenOf, Builtin.firstCells]
  · simp [Builtin.append_, run_underlying ht, sizeOf, typeInfo, hi, Builtin.lenOf, Builtin.firstCells, hnc, storeCells]
theorem ownsRow_one {w : World} {base e es n : Nat} {v : Value} {xs : List Value} (h : w.ownsRow base e es v n xs) : v.oneCell' = true := by
  rcases h.2 with ⟨rfl, _⟩ | ⟨g, cap, cur, rfl, _⟩ <;> rfl
section
variable {K : Ctx} {Q : Exit → Env → Hp → Prop} {env : Env} {H : Hp} {ops : Array Oper} {rest : List Oper} {t : Nat} {ty : TypeId} {pos : String} {af : Array Edge}
theorem row_ok {w : World} {F : Nat → Prop} (hh : HeapOK w (both F H) H) {v : Value} {e es : Nat} {xs : List (List D)} (hm : Blk.row v e es xs ∈ H) :
    ∃ vals : List Value, w.ownsRow 0 e es v xs.length vals ∧ (∀ x ∈ xs, x.length = es) ∧
      ∀ (j : Nat) (d : D) (u : Value), xs.flatten[j]? = some d → vals[j]? = some u → u.oneCell' = true ∧ Rep w (both F H) d u := hh.each _ hm
theorem TL.append {tt e es bytes : Nat} {x y : Operand} {v : Value} {xs ys : List (List D)} {H' : Value → Hp} (ht : AppT K.P tt e es bytes) (hx : opD env x = some (.v v)) (hy : opD env y = some (.sl es ys))
    (hu : ∀ v', UpdR (.row v e es xs) (.row v' e es (xs ++ ys)) H (H' v')) (hb : (xs.length + ys.length) * bytes ≤ 140737488355328) (hl : xs.length + ys.length ≤ 9223372036854775807) (hd : Nat.blt t K.n = true)
    (h : ∀ v', v'.oneCell' = true → TL K ops rest Q (env.put t (some (.v v'))) (H' v')) :
    TL K ops (⟨some t, .call { callee := .builtin .append, args := #[x, y], argTypes := #[tt, tt] }, ty, pos, af, none⟩ :: rest) Q env H := fun a w hs => by
  unfold wpListIn
  rw [if_pos (by rfl)]
  obtain ⟨i, z, hi, hz, hsz, hby, hzs⟩ := ht.info
  have e1 := Rep.of_v (hs.eval hx)
  obtain ⟨vals, hown, hxe, hj⟩ := row_ok hs.heap (hu v).mem
  have hvl : vals.length = xs.length * es := hown.1
  have hxl : xs.flatten.length = xs.length * es := flatten_len xs hxe
  -- what an append leaves, whatever the source
  have main : ∃ (v' : Value) (w' : World) (news : List Value), (Builtin.append_ #[tt, tt] ty #[v, a.eval y]).run K.P w = .ok v' w' ∧ w'.ownsRow 0 e es v' (xs.length + ys.length) (vals ++ news) ∧ w.grownBy w' v.ownBlock ∧
      (v'.ownBlock = v.ownBlock ∨ v'.ownBlock = some w.heap.size) ∧ (∀ y ∈ ys, y.length = es) ∧
      ∀ (j : Nat) (d : D) (u : Value), ys.flatten[j]? = some d → news[j]? = some u → u.oneCell' = true ∧ Rep w (both K.F H) d u := by
    rcases (hs.eval hy).sl_row ht.pos with ⟨e2, rfl⟩ | ⟨ad, c, news, e2, hnl, hye, hnc, hno, hnr⟩
    · refine ⟨v, w, [], ?_, by simpa using hown, World.grownBy.refl w _, .inl rfl, by simp, fun j d u hd => by simp at hd⟩
      rw [e2]
      exact run_append_nil_src w 0 tt ty e i es ht.under hi v xs.length vals hown 0
    · obtain ⟨v', w', hr, h2, h3, _, h5⟩ := run_append_own_at (P := K.P) w 0 tt ty e i z es bytes ht.under hi hz hsz hby hzs ht.pos v xs.length vals hown ad ys.length c news hnl hnc hno
        (by simp only [maxLen]; omega) hb (Nat.zero_le _)
      exact ⟨v', w', news, by rw [e2]; exact hr, h2, h3, h5, hye, hnr⟩
  obtain ⟨v', w', news, hr, hown', hg, hbl, hye, hnr⟩ := main
  have erun : (execOp a.eval ⟨some t, .call { callee := .builtin .append, args := #[x, y], argTypes := #[tt, tt] }, ty, pos, af, none⟩).run K.P w = .ok (.value v') w' := by
    simp [execOp, resolve, invoke, builtin, e1, hr]
  refine wpIn_ok (fun _ h => by cases h) erun ?_
  have k : Kept (fun g => (Blk.row v e es xs).blk = some g) w w' := ⟨hg.os, hg.tape, hg.output, hg.size, fun k hk hn => hg.block k hk (fun e => hn e.symm)⟩
  have hbb : ∀ g', (Blk.row v' e es (xs ++ ys)).blk = some g' → (Blk.row v e es xs).blk = some g' ∨ w.heap.size ≤ g' := fun g' hg' => by
    simp only [Blk.blk] at hg' ⊢
    rcases hbl with h1 | h1
    · exact .inl (h1 ▸ hg')
    · right; rw [h1] at hg'; cases hg'; exact Nat.le_refl _
  have hrep : ∀ {d u}, Rep w (both K.F H) d u → Rep w' (both K.F (H' v')) d u := fun hr => hs.rep_upd (hu v') hbb k hr
  refine h v' (ownsRow_one hown') _ _ (Sat.dst (hs.upd (hu v') hbb k ⟨vals ++ news, by simpa using hown', ?_, ?_⟩) (by simpa [Nat.blt_eq] using hd) (.v _))
  · intro x hx
    rcases List.mem_append.1 hx with h1 | h1
    · exact hxe x h1
    · exact hye x h1
  · intro j d u hdj huj
    rw [List.flatten_append] at hdj
    by_cases hlt : j < xs.flatten.length
    · rw [List.getElem?_append_left hlt] at hdj
      rw [List.getElem?_append_left (by omega)] at huj
      obtain ⟨q1, q2⟩ := hj j d u hdj huj
      exact ⟨q1, hrep q2⟩
    · rw [List.getElem?_append_right (by omega)] at hdj
      rw [List.getElem?_append_right (by omega), show vals.length = xs.flatten.length by omega] at huj
      obtain ⟨q1, q2⟩ := hnr _ d u hdj huj
      exact ⟨q1, hrep q2⟩
theorem Sat.nilrow {a : Act} {w : World} (h : Sat K env H a w) (e es : Nat) : Sat K env (.row (.slice none 0 0) e es [] :: H) a w :=
  h.push (Kept.refl _ _) (fun g hg => by cases hg) ⟨[], ⟨by simp, .inl ⟨rfl, rfl⟩⟩, by simp, fun j d u hd => by simp at hd⟩
theorem TC.nilrow {c : Code} (e es : Nat) (h : TC K c Q env (.row (.slice none 0 0) e es [] :: H)) : TC K c Q env H := TC.view (fun _ _ hs => hs.nilrow e es) h
theorem TL.nilrow {l : List Oper} (e es : Nat) (h : TL K ops l Q env (.row (.slice none 0 0) e es [] :: H)) : TL K ops l Q env H := fun a w hs => h a w (hs.nilrow e es)
theorem row_data {w : World} {F : Nat → Prop} {v : Value} {e es : Nat} {xs : List (List D)} (hes : 0 < es) (hok : (Blk.row v e es xs).ok w F) (hF : ∀ g, v.ownBlock = some g → ¬ F g) : Rep w F (.sl es xs) v := by
  obtain ⟨vals, hown, hxe, hj⟩ := hok
  rcases hown.2 with ⟨rfl, hn⟩ | ⟨g, cap, cur, rfl, _, hg, hnc, _, hcs, htake⟩
  · have : xs = [] := List.eq_nil_of_length_eq_zero hn
    subst this
    exact .nil es
  · have hfl : ∀ (i j : Nat) (x : List D) (d : D), xs[i]? = some x → x[j]? = some d → xs.flatten[i * es + j]? = some d ∧ i * es + j < vals.length := by
      intro i j x d hx hd
      have hxl := hxe x (List.mem_of_getElem? hx)
      have hjl : j < es := by rw [← hxl]; exact (List.getElem?_eq_some_iff.1 hd).1
      have hil : i < xs.length := (List.getElem?_eq_some_iff.1 hx).1
      refine ⟨?_, ?_⟩
      · rw [flatten_get hes xs hxe]
        have e1 : (i * es + j) / es = i := by rw [Nat.mul_comm, Nat.mul_add_div hes, Nat.div_eq_of_lt hjl, Nat.add_zero]
        have e2 : (i * es + j) % es = j := by rw [Nat.mul_comm, Nat.mul_add_mod, Nat.mod_eq_of_lt hjl]
        rw [e1, e2, hx]
        exact hd
      · rw [hown.1]
        have : (i + 1) * es ≤ xs.length * es := Nat.mul_le_mul_right _ hil
        rw [Nat.add_mul] at this
        omega
    refine .sl es xs ⟨g, 0, none⟩ cap (fun i j => vals.getD (i * es + j) undef) hnc hxe (fun _ => ⟨hF g rfl, (Array.getElem?_eq_some_iff.1 hg).1⟩) (fun i j x d hx hd => ?_) (fun i j x d hx hd => ?_)
    · obtain ⟨h1, h2⟩ := hfl i j x d hx hd
      have hv : vals[i * es + j]? = some (vals.getD (i * es + j) undef) := by simp [h2]
      refine ⟨?_, (hj _ _ _ h1 hv).1⟩
      rw [own_add, cell_of_row w g _ cur e (0, 0) hg, Nat.zero_add, ← hv, ← htake, List.getElem?_take_of_lt (by rw [← hown.1]; exact h2)]
      simp
    · obtain ⟨h1, h2⟩ := hfl i j x d hx hd
      exact (hj _ _ _ h1 (by simp [h2])).2
inductive DelR (b : Blk) : Hp → Hp → Prop where
  | here (H : Hp) : DelR b (b :: H) H
  | there (x : Blk) {H H' : Hp} : DelR b H H' → DelR b (x :: H) (x :: H')
theorem DelR.sub {b : Blk} {H H' : Hp} (h : DelR b H H') : H'.Sublist H ∧ b ∈ H := by
  induction h with
  | here H => exact ⟨List.sublist_cons_self _ _, by simp⟩
  | there x _ ih => exact ⟨ih.1.cons_cons x, by simp [ih.2]⟩
theorem DelR.apart {b : Blk} {H H' : Hp} (h : DelR b H H') (hp : H.Pairwise (fun b b' => ∀ g, b.blk = some g → b'.blk ≠ some g)) : ∀ x ∈ H', ∀ g, b.blk = some g → x.blk ≠ some g := by
  induction h with
  | here H => exact (List.pairwise_cons.1 hp).1
  | there y hd ih =>
    obtain ⟨h1, h2⟩ := List.pairwise_cons.1 hp
    intro x hx g hg hxg
    rcases List.mem_cons.1 hx with rfl | hx
    · exact h1 b hd.sub.2 g hxg hg
    · exact ih h2 x hx g hg hxg
theorem Sat.freeze {a : Act} {w : World} {v : Value} {e es : Nat} {xs : List (List D)} {H' : Hp} (h : Sat K env H a w) (hes : 0 < es) (hd : DelR (.row v e es xs) H H') (ht : env t = some (.v v)) :
    Sat K (env.put t (some (.sl es xs))) H' a w := by
  have h1 : Sat K env H' a w := h.forget (fun _ _ h => h) hd.sub.1
  refine ⟨fun t' d hd' => ?_, h1.size, h1.defers, h1.heap, h1.kept, h1.fresh, h1.foreign⟩
  rcases Env.put_some hd' with ⟨rfl, ho⟩ | ⟨hne, ho⟩
  · cases ho
    obtain ⟨u, hu, hr⟩ := h1.tmps t' _ ht
    refine ⟨u, hu, ?_⟩
    rw [Rep.of_v hr]
    refine row_data hes (Blk.ok_fewer (h.heap.each _ hd.sub.2) fun g => both_mono fun _ => (hd.sub.1.subset ·)) fun g hg hF => ?_
    rcases hF with hF | ⟨x, hx, hxg⟩
    · exact (h.F_lt g hF).2 ⟨_, hd.sub.2, hg⟩
    · exact hd.apart h.heap.apart x hx g hg hxg
  · exact h1.tmps t' d ho
theorem TC.freeze {c : Code} {v : Value} {e es : Nat} {xs : List (List D)} {H' : Hp} (t : Nat) (hes : 0 < es) (hd : DelR (.row v e es xs) H H') (ht : env t = some (.v v)) (h : TC K c Q (env.put t (some (.sl es xs))) H') :
    TC K c Q env H := TC.view (fun _ _ hs => hs.freeze hes hd ht) h
theorem TL.freeze {l : List Oper} {v : Value} {e es : Nat} {xs : List (List D)} {H' : Hp} (t : Nat) (hes : 0 < es) (hd : DelR (.row v e es xs) H H') (ht : env t = some (.v v)) (h : TL K ops l Q (env.put t (some (.sl es xs))) H') :
    TL K ops l Q env H := fun a w hs => h a w (hs.freeze hes hd ht)
inductive ResD (P : Program) (env : Env) (H : Hp) : List ResultVar → List D → Prop where
  | nil : ResD P env H [] []
  | tmp {t : Nat} {d : D} {rs : List ResultVar} {ds : List D} : env t = some d → ResD P env H rs ds → ResD P env H (.tmp t :: rs) (d :: ds)
  | cell {t T n g T' : Nat} {cs : List D} {rs : List ResultVar} {ds : List D} : AggT P T n → env t = some (.v (.pointer (some ⟨g, 0, none⟩))) → Blk.box g T' cs ∈ H → Nat.beq cs.length n = true → ResD P env H rs ds → ResD P env H (.cell t T :: rs) (.agg cs :: ds)
  | one {t T g T' : Nat} {d : D} {rs : List ResultVar} {ds : List D} : OneT P T → env t = some (.v (.pointer (some ⟨g, 0, none⟩))) → Blk.box g T' [d] ∈ H → ResD P env H rs ds → ResD P env H (.cell t T :: rs) (d :: ds)
def oneD : List D → D
  | [d] => d
  | ds => .tup ds
def RetA (P : Program) (rs : Array ResultVar) (R : D → Hp → Prop) (e : Exit) (env : Env) (H : Hp) : Prop :=
  (e = .ret ∨ e = .normal) ∧ ∃ ds, ResD P env H rs.toList ds ∧ ∃ H', H'.Sublist H ∧ R (oneD ds) H'
theorem env_args_get {k : Nat} : ∀ {ds : List D} {t : Nat} {d : D}, Env.args k ds t = some d → k ≤ t ∧ ds[t - k]? = some d
  | [], t, d, h => by simp [Env.args] at h
  | d0 :: ds, t, d, h => by
    simp only [Env.args] at h
    rcases Env.put_some h with ⟨hk, ho⟩ | ⟨hne, ho⟩
    · subst hk; injection ho with ho; subst ho; exact ⟨Nat.le_refl _, by simp⟩
    · obtain ⟨h1, h2⟩ := env_args_get (k := k + 1) ho
      refine ⟨by omega, ?_⟩
      rw [show t - k = (t - (k + 1)) + 1 by omega]
      simpa using h2
theorem run_results {P : Program} {w : World} {F : Nat → Prop} {tmps : Array Value} (hh : HeapOK w (both F H) H)
    (ht : ∀ t d, env t = some d → ∃ u, tmps[t]? = some u ∧ Rep w (both F H) d u) :
    ∀ {rs : List ResultVar} {ds : List D}, ResD P env H rs ds →
      ∃ vs : List Value, (rs.mapM fun | .tmp t => pure (tmps.getD t undef) | .cell a t => do loadVar t (← asAddr (tmps.getD a undef)) : Sem (List Value)).run P w = .ok vs w ∧ vs.length = ds.length ∧
        ∀ (j : Nat) (d : D) (u : Value), ds[j]? = some d → vs[j]? = some u → Rep w (both F H) d u := by
  intro rs ds h
  induction h with
  | nil => exact ⟨[], rfl, rfl, fun j d u hd => by simp at hd⟩
  | @tmp t d rs ds h1 h2 ih =>
    obtain ⟨vs, hr, hl, hj⟩ := ih
    obtain ⟨u, hu, hrep⟩ := ht t d h1
    refine ⟨u :: vs, ?_, by simp [hl], fun j d' u' hd hu' => ?_⟩
    · rw [List.mapM_cons]
      simp only [Sem.run_bind, Sem.run_pure, Result.andThen_ok, hr]
      simp [hu]
    · cases j with
      | zero =>
        have e1 : d = d' := by simpa using hd
        have e2 : u = u' := by simpa using hu'
        subst e1; subst e2; exact hrep
      | succ j => exact hj j d' u' (by simpa using hd) (by simpa using hu')
  | @cell t T n g T' cs rs ds hT h1 hm hcl0 h2 ih =>
    obtain ⟨vs, hr, hl, hj⟩ := ih
    have hcl : cs.length = n := Nat.eq_of_beq_eq_true hcl0
    obtain ⟨u, hu, hrep⟩ := ht t _ h1
    have e1 := Rep.of_v hrep
    subst e1
    obtain ⟨vals, hg, hvs, hjj⟩ := ok_box hh hm
    have hcell : ∀ j, j < n → w.cell? ((⟨g, 0, none⟩ : Addr).add j) = some (vals.getD j undef) := fun j hj => by
      rw [own_add, cell_of_row w g (0 + j) vals T' (0, 0) hg]
      simp [show j < vals.size by omega]
    have hload : (loadVar T ⟨g, 0, none⟩).run P w = .ok (.agg vals) w := by
      have : ((List.range n).map fun j => vals.getD j undef).toArray = vals := by
        apply Array.ext
        · simp; omega
        · intro i h1 h2
          simp [h2]
      simp [loadVar, hT.agg, hT.size, run_loadCells_vals hcell]
      simpa using this
    refine ⟨.agg vals :: vs, ?_, by simp [hl], fun j d' u' hd hu' => ?_⟩
    · rw [List.mapM_cons]
      have e2 : tmps.getD t undef = .pointer (some ⟨g, 0, none⟩) := by simp [hu]
      have e3 : (asAddr (Value.pointer (some ⟨g, 0, none⟩))).run P w = .ok ⟨g, 0, none⟩ w := rfl
      simp only [e2, e3, Sem.run_bind, Sem.run_pure, Result.andThen_ok, hload, hr]
    · cases j with
      | zero =>
        have e1 : D.agg cs = d' := by simpa using hd
        have e2 : Value.agg vals = u' := by simpa using hu'
        subst e1; subst e2
        exact .agg cs vals hvs (fun j u hu => by
          have hlt : j < cs.length := by rw [← hvs]; exact (Array.getElem?_eq_some_iff.1 hu).1
          exact (hjj j _ u (List.getElem?_eq_getElem hlt) hu).1) (fun j d u hd hu => (hjj j d u hd hu).2)
      | succ j => exact hj j d' u' (by simpa using hd) (by simpa using hu')
  | @one t T g T' d0 rs ds hT h1 hm h2 ih =>
    obtain ⟨vs, hr, hl, hj⟩ := ih
    obtain ⟨u, hu, hrep⟩ := ht t _ h1
    have e1 := Rep.of_v hrep
    subst e1
    obtain ⟨vals, hg, hvs, hjj⟩ := ok_box hh hm
    have hv1 : vals.size = 1 := by simpa using hvs
    have hx : vals[0]? = some vals[0] := Array.getElem?_eq_getElem (by omega)
    obtain ⟨ho, hrp⟩ := hjj 0 d0 vals[0] (by simp) hx
    have hcell : w.cell? ⟨g, 0, none⟩ = some vals[0] := by
      rw [cell_of_row w g 0 vals T' (0, 0) hg, hx]
    have hload : (loadVar T ⟨g, 0, none⟩).run P w = .ok vals[0] w := by
      simp [loadVar, hT.one, hcell]
    refine ⟨vals[0] :: vs, ?_, by simp [hl], fun j d' u' hd hu' => ?_⟩
    · rw [List.mapM_cons]
      have e2 : tmps.getD t undef = .pointer (some ⟨g, 0, none⟩) := by simp [hu]
      have e3 : (asAddr (Value.pointer (some ⟨g, 0, none⟩))).run P w = .ok ⟨g, 0, none⟩ w := rfl
      simp only [e2, e3, Sem.run_bind, Sem.run_pure, Result.andThen_ok, hload, hr]
    · cases j with
      | zero =>
        have e1 : d0 = d' := by simpa using hd
        have e2 : vals[0] = u' := by simpa using hu'
        subst e1; subst e2
        exact hrp
      | succ j => exact hj j d' u' (by simpa using hd) (by simpa using hu')
theorem calls_of_body {P : Program} {f : FuncId} {fn : Func} {c : Code} {ds : List D} {R : D → Hp → Prop} {w : World} {F : Nat → Prop} {vs : List Value} (hf : P.funcs[f]? = some fn) (hb : fn.body = some c) (hl : ds.length ≤ fn.ntmps)
    (h : TC ⟨P, fn.ntmps, w, F, own H, none⟩ c (RetA P fn.results R) (Env.args 0 ds) H) (hvl : vs.length = ds.length) (hv : ∀ (j : Nat) (d : D) (u : Value), ds[j]? = some d → vs[j]? = some u → Rep w (both F H) d u)
    (hh : HeapOK w (both F H) H) (hF : Foreign P F w (own H)) :
    Calls P f vs.toArray w fun e w' => ∃ v r H', e = .returned v ∧ R r H' ∧ Rep w' (both F H') r v ∧ HeapOK w' (both F H') H' ∧ Kept (own H) w w' ∧
      ∀ g, own H' g → own H g ∨ w.heap.size ≤ g := by
  have hsat : Sat ⟨P, fn.ntmps, w, F, own H, none⟩ (Env.args 0 ds) H { tmps := vs.toArray ++ Array.replicate (fn.ntmps - vs.toArray.size) undef, defers := [] } w := by
    refine ⟨fun t d hd => ?_, by simp; omega, .nil _ _ _, hh, Kept.refl _ _, fun g hg => .inl hg, hF⟩
    obtain ⟨_, hd⟩ := env_args_get hd
    have hlt : t < vs.length := by rw [hvl]; exact (List.getElem?_eq_some_iff.1 hd).1
    exact ⟨vs[t], by simp [Array.getElem?_append, hlt], hv t d _ hd (List.getElem?_eq_getElem hlt)⟩
  refine (callsIn_wide (n := 0)).1 (callsIn_of_wp_marks hf hb trivial (wpIn_mono (h _ w hsat) ?_))
  rintro e a' w' ⟨env', H', hs, he, rs, hres, H'', hsub, hR⟩
  have main : LeavesInM Fence.wide 0 P fn a'.tmps (fun e w' => ∃ v r H', e = .returned v ∧ R r H' ∧ Rep w' (both F H') r v ∧ HeapOK w' (both F H') H' ∧ Kept (own H) w w' ∧ ∀ g, own H' g → own H g ∨ w.heap.size ≤ g) a'.defers .returning w' := by
    refine leaves_of (B := w.heap.size) a'.defers w' w' hs.defers (Kept.refl _ _) (fun w2 k2 => ?_)
    obtain ⟨us, hrun, hul, hj⟩ := run_results (P := P) (hs.heap.shut k2) (fun t d ht => let ⟨u, hu, hr⟩ := hs.tmps t d ht; ⟨u, hu, hr.shut k2⟩) hres
    have hrr : (results fn a'.tmps).run P w2 = .ok (if h : us.length = 1 then us[0] else .tuple us.toArray) w2 := by
      unfold results
      have e0 : fn.results = fn.results.toList.toArray := by simp
      rw [e0, List.mapM_toArray]
      simp only [Sem.run_bind, Sem.run_map]
      erw [hrun]
      simp
    have hfew : ∀ {d u}, Rep w2 (both F H') d u → Rep w2 (both F H'') d u := fun hr => hr.fewer fun g => both_mono fun _ => (hsub.subset ·)
    have hrep : Rep w2 (both F H'') (oneD rs) (if h : us.length = 1 then us[0] else .tuple us.toArray) := by
      by_cases h1 : us.length = 1
      · obtain ⟨r, rfl⟩ := List.length_eq_one_iff.1 (hul ▸ h1)
        obtain ⟨u, rfl⟩ := List.length_eq_one_iff.1 h1
        rw [dif_pos h1]
        exact hfew (hj 0 r u rfl rfl)
      · rw [dif_neg h1]
        have : oneD rs = .tup rs := by
          match rs, hul with
          | [], _ => rfl
          | [_], hul => exact absurd hul h1
          | _ :: _ :: _, _ => rfl
        rw [this]
        exact .tup rs us.toArray (by simpa using hul) (fun j d u hd hu => hfew (hj j d u hd (by simpa using hu)))
    have hk2 : Kept (own H) w w2 := ⟨k2.os.trans hs.kept.os, k2.tape.trans hs.kept.tape, k2.output.trans hs.kept.output, Nat.le_trans hs.kept.size k2.size, fun b hb hn => by
      rw [k2.block b (Nat.lt_of_lt_of_le hb hs.kept.size) (fun hsh => by have := hsh.1; omega)]
      exact hs.kept.block b hb hn⟩
    exact ⟨_, hrr, _, _, H'', rfl, hR, hrep, (hs.heap.shut k2).sub hsub (fun g => both_mono fun _ => (hsub.subset ·)), hk2, fun g hg => hs.fresh g (own_mono (fun _ => (hsub.subset ·)) hg)⟩
  rcases he with rfl | rfl
  · exact main
  · exact main
theorem CallD.of_body {P : Program} {f : FuncId} {fn : Func} {c : Code} {ds : List D} {R : D → Hp → Prop} (hf : P.funcs[f]? = some fn) (hb : fn.body = some c) (hl : ds.length ≤ fn.ntmps)
    (h : ∀ w F, TC ⟨P, fn.ntmps, w, F, own H, none⟩ c (RetA P fn.results R) (Env.args 0 ds) H) : CallD P f ds H R :=
  fun w F vs hvl hv hh hF => calls_of_body hf hb hl (h w F) hvl hv hh hF
theorem Fun.of_body {P : Program} {f : FuncId} {fn : Func} {c : Code} {ds : List D} {r : D} (hf : P.funcs[f]? = some fn) (hb : fn.body = some c) (hl : ds.length ≤ fn.ntmps)
    (h : ∀ w F, TC ⟨P, fn.ntmps, w, F, own [], none⟩ c (RetA P fn.results (fun r' H' => r' = r ∧ H' = [])) (Env.args 0 ds) []) : Fun P f ds r := CallD.of_body hf hb hl h
end
end Go.Ob
