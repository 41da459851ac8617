/- The layer of data over the kit's logic: what values in memory mean as data, when the meaning persists, contracts of functions over data. -/
import Derived.WalkKit
import Derived.RangeFuncLeaves
import Derived.RangeFuncRecord
import Derived.RangeFuncCalls
import Derived.TacticsIn
import Derived.OrdersIn
import Derived.LoopNIn
import Derived.OwnWalkIn
import Derived.Deep.Quiet
import Derived.Laws.AppendOwn
import Derived.Laws.OwnMore
import Derived.Shelf.Unicode.DecodeSlow
set_option linter.unusedVariables false
set_option linter.unusedSimpArgs false
set_option linter.unusedSectionVars false
namespace Go.Ob
open Go.RowKit

inductive D where
  | v (x : Value)
  | agg (ds : List D)
  | tup (ds : List D)
  | sl (es : Nat) (xs : List (List D))
  | at_ (cs : List D)
  | fn (f : Nat) (caps : List D)
  | mp (ks : List Value) (ds : List D)

/-- value u, in world w, means the data d; no memory that it leads to is owned. -/
inductive Rep (w : World) (own : Nat → Prop) : D → Value → Prop where
  | v (x : Value) : Rep w own (.v x) x
  | agg (ds : List D) (vs : Array Value) : vs.size = ds.length → (∀ (j : Nat) (u : Value), vs[j]? = some u → u.oneCell' = true) →
      (∀ (j : Nat) (d : D) (u : Value), ds[j]? = some d → vs[j]? = some u → Rep w own d u) → Rep w own (.agg ds) (.agg vs)
  | tup (ds : List D) (vs : Array Value) : vs.size = ds.length →
      (∀ (j : Nat) (d : D) (u : Value), ds[j]? = some d → vs[j]? = some u → Rep w own d u) → Rep w own (.tup ds) (.tuple vs)
  | nil (es : Nat) : Rep w own (.sl es []) (.slice none 0 0)
  | sl (es : Nat) (xs : List (List D)) (a : Addr) (c : Nat) (val : Nat → Nat → Value) : xs.length ≤ c → (∀ x ∈ xs, x.length = es) →
      (xs ≠ [] → ¬ own a.block ∧ a.block < w.heap.size) →
      (∀ (i j : Nat) (x : List D) (d : D), xs[i]? = some x → x[j]? = some d → w.cell? (a.add (i * es + j)) = some (val i j) ∧ (val i j).oneCell' = true) →
      (∀ (i j : Nat) (x : List D) (d : D), xs[i]? = some x → x[j]? = some d → Rep w own d (val i j)) → Rep w own (.sl es xs) (.slice (some a) xs.length c)
  | at_ (cs : List D) (a : Addr) (val : Nat → Value) : cs ≠ [] → ¬ own a.block →
      (∀ (j : Nat) (d : D), cs[j]? = some d → w.cell? (a.add j) = some (val j) ∧ (val j).oneCell' = true) →
      (∀ (j : Nat) (d : D), cs[j]? = some d → Rep w own d (val j)) → Rep w own (.at_ cs) (.pointer (some a))
  | fn (f : Nat) (caps : List D) (vs : Array Value) : vs.size = caps.length →
      (∀ (j : Nat) (d : D) (u : Value), caps[j]? = some d → vs[j]? = some u → Rep w own d u) → Rep w own (.fn f caps) (.func (.func f) #[] vs)
  | mp (ks : List Value) (ds : List D) (r : Nat) (es : Array MapEntry) (clock : Nat) : w.heap[r]? = some (.map es clock) → ¬ own r → es.size = ks.length → ds.length = ks.length →
      (∀ (j : Nat) (k : Value) (e : MapEntry), ks[j]? = some k → es[j]? = some e → e.key = k) →
      (∀ (j : Nat) (d : D) (e : MapEntry), ds[j]? = some d → es[j]? = some e → Rep w own d e.val) → Rep w own (.mp ks ds) (.map (some r))

theorem Addr.block_add (a : Addr) (n : Nat) : (a.add n).block = a.block := by unfold Addr.add; split <;> rfl

theorem add_add (a : Addr) (m n : Nat) : (a.add m).add n = a.add (m + n) := by
  unfold Addr.add
  by_cases hm : m = 0 <;> by_cases hn : n = 0 <;> simp [hm, hn, Nat.add_assoc]

theorem Rep.mono {w w' : World} {own own' : Nat → Prop} {d : D} {u : Value} (hz : w.heap.size ≤ w'.heap.size)
    (hk' : ∀ b, b < w.heap.size → ¬ own b → w'.heap[b]? = w.heap[b]?) (ho : ∀ b, b < w.heap.size → own' b → own b) (h : Rep w own d u) : Rep w' own' d u := by
  induction h with
  | v x => exact .v x
  | agg ds vs hs h1 h ih => exact .agg ds vs hs h1 ih
  | tup ds vs hs h ih => exact .tup ds vs hs ih
  | nil es => exact .nil es
  | sl es xs a c val hc he hb hcell hrep ih =>
    refine .sl es xs a c val hc he (fun hx => ⟨fun h => (hb hx).1 (ho _ (hb hx).2 h), Nat.lt_of_lt_of_le (hb hx).2 hz⟩) (fun i j x d hx hd => ?_) ih
    have hne : xs ≠ [] := by rintro rfl; simp at hx
    have := hcell i j x d hx hd
    rw [World.cell?_of_block (w := w) (w' := w') (by rw [Addr.block_add]; exact hk' _ (hb hne).2 (hb hne).1)]
    exact this
  | at_ cs a val hne hb hcell hrep ih =>
    have hlt : a.block < w.heap.size := by
      cases cs with
      | nil => exact absurd rfl hne
      | cons c cs =>
        have := (hcell 0 c (by simp)).1
        have := block_lt_of_cell this
        rwa [Addr.block_add] at this
    refine .at_ cs a val hne (fun h => hb (ho _ hlt h)) (fun j d hd => ?_) ih
    have := hcell j d hd
    rw [World.cell?_of_block (w := w) (w' := w') (by rw [Addr.block_add]; exact hk' _ hlt hb)]
    exact this
  | fn f caps vs hs h ih => exact .fn f caps vs hs ih
  | mp ks ds r es clock hr hn hs hd hk h ih =>
    have hlt : r < w.heap.size := (Array.getElem?_eq_some_iff.1 hr).1
    exact .mp ks ds r es clock (by rw [hk' r hlt hn]; exact hr) (fun h => hn (ho r hlt h)) hs hd hk ih

theorem Rep.of_v {w : World} {own : Nat → Prop} {x u : Value} (h : Rep w own (.v x) u) : u = x := by cases h; rfl

/-- What one call owns: a variable (box), a slice that it grows (row). -/
inductive Blk where
  | box (g : Nat) (t : TypeId) (cs : List D)
  | row (v : Value) (e : TypeId) (es : Nat) (xs : List (List D))
  | mp (g : Nat) (ks : List Value) (ds : List D)
  | obj (g : Nat) (o : Obj)
  /-- a row of which k places in the middle hold nobody knows what -/
  | gap (g cap : Nat) (e : TypeId) (es : Nat) (xs : List (List D)) (k : Nat) (ys : List (List D))

def Blk.blk : Blk → Option Nat
  | .box g _ _ => some g
  | .row v _ _ _ => v.ownBlock
  | .mp g _ _ => some g
  | .obj g _ => some g
  | .gap g _ _ _ _ _ _ => some g

def Blk.ok (w : World) (own : Nat → Prop) : Blk → Prop
  | .box g t cs => ∃ vs : Array Value, w.heap[g]? = some (.cells vs t (0, 0)) ∧ vs.size = cs.length ∧
      ∀ (j : Nat) (d : D) (u : Value), cs[j]? = some d → vs[j]? = some u → u.oneCell' = true ∧ Rep w own d u
  | .row v e es xs => ∃ vals : List Value, w.ownsRow 0 e es v xs.length vals ∧ (∀ x ∈ xs, x.length = es) ∧
      ∀ (j : Nat) (d : D) (u : Value), xs.flatten[j]? = some d → vals[j]? = some u → u.oneCell' = true ∧ Rep w own d u
  | .mp g ks ds => ∃ (es : Array MapEntry) (clock : Nat), w.heap[g]? = some (.map es clock) ∧ es.size = ks.length ∧ ds.length = ks.length ∧
      (∀ (j : Nat) (k : Value) (e : MapEntry), ks[j]? = some k → es[j]? = some e → e.key = k) ∧
      ∀ (j : Nat) (d : D) (e : MapEntry), ds[j]? = some d → es[j]? = some e → Rep w own d e.val
  | .obj g o => o ≠ .deferred (some []) ∧ w.heap[g]? = some o
  | .gap g cap e es xs k ys => ∃ cur : Array Value, w.heap[g]? = some (.cells cur e (0, 0)) ∧ cap ≤ maxLen ∧ cur.size = cap * es ∧ xs.length + k + ys.length ≤ cap ∧ (∀ x ∈ xs, x.length = es) ∧ (∀ y ∈ ys, y.length = es) ∧
      (∀ (j : Nat) (d : D) (u : Value), xs.flatten[j]? = some d → cur.toList[j]? = some u → u.oneCell' = true ∧ Rep w own d u) ∧
      ∀ (j : Nat) (d : D) (u : Value), ys.flatten[j]? = some d → cur.toList[(xs.length + k) * es + j]? = some u → u.oneCell' = true ∧ Rep w own d u

abbrev Hp := List Blk

def own (H : Hp) (g : Nat) : Prop := ∃ b ∈ H, b.blk = some g
def both (F : Nat → Prop) (H : Hp) (g : Nat) : Prop := F g ∨ own H g

structure HeapOK (w : World) (o : Nat → Prop) (H : Hp) : Prop where
  each : ∀ b ∈ H, b.ok w o
  apart : H.Pairwise (fun b b' => ∀ g, b.blk = some g → b'.blk ≠ some g)

/-- All blocks that were there are as they were, but for those of S. -/
structure Kept (S : Nat → Prop) (w w' : World) : Prop where
  os : w'.os = w.os
  tape : w'.tape = w.tape
  output : w'.output = w.output
  size : w.heap.size ≤ w'.heap.size
  block : ∀ k, k < w.heap.size → ¬ S k → w'.heap[k]? = w.heap[k]?

def no : Nat → Prop := fun _ => False

theorem Kept.refl (S : Nat → Prop) (w : World) : Kept S w w := ⟨rfl, rfl, rfl, Nat.le_refl _, fun _ _ _ => rfl⟩
theorem Kept.trans {S : Nat → Prop} {a b c : World} (h : Kept S a b) (k : Kept S b c) : Kept S a c :=
  ⟨k.os.trans h.os, k.tape.trans h.tape, k.output.trans h.output, Nat.le_trans h.size k.size,
   fun i hi hs => (k.block i (Nat.lt_of_lt_of_le hi h.size) hs).trans (h.block i hi hs)⟩
theorem Kept.mono {S S' : Nat → Prop} {w w' : World} (h : Kept S w w') (hs : ∀ b, b < w.heap.size → S b → S' b) : Kept S' w w' :=
  ⟨h.os, h.tape, h.output, h.size, fun k hk hn => h.block k hk (fun x => hn (hs k hk x))⟩
theorem Kept.drew (S : Nat → Prop) (w : World) : Kept S w w.drew := ⟨rfl, rfl, rfl, Nat.le_refl _, fun _ _ _ => rfl⟩
theorem Kept.alloc (S : Nat → Prop) (w : World) (o : Obj) : Kept S w (w.alloc o) :=
  ⟨rfl, rfl, rfl, by simp, fun k hk _ => Below.heap_alloc w o k hk⟩
theorem Kept.setCell (S : Nat → Prop) (w : World) (a : Addr) (u : Value) (h : S a.block) : Kept S w (w.setCell a u) :=
  ⟨rfl, rfl, rfl, by simp [World.setCell], fun k _ hs => Below.heap_setCell w a u k (fun e => hs (e ▸ h))⟩
theorem Kept.below {w w' : World} (h : Kept no w w') : Below w.heap.size w w' := ⟨h.os, h.tape, h.output, h.size, fun k hk => h.block k hk id⟩
theorem Kept.of_below {w w' : World} (S : Nat → Prop) (h : Below w.heap.size w w') : Kept S w w' := ⟨h.os, h.tape, h.output, h.size, fun k hk _ => h.block k hk⟩

theorem Rep.kept {w w' : World} {S own own' : Nat → Prop} {d : D} {u : Value} (h : Rep w own d u) (k : Kept S w w')
    (hS : ∀ b, b < w.heap.size → S b → own b) (ho : ∀ b, b < w.heap.size → own' b → own b) : Rep w' own' d u :=
  h.mono k.size (fun b hb hn => k.block b hb (fun s => hn (hS b hb s))) ho

theorem Blk.blk_lt {w : World} {o : Nat → Prop} {b : Blk} (h : b.ok w o) {g : Nat} (hg : b.blk = some g) : g < w.heap.size := by
  cases b with
  | box g' t cs =>
    obtain ⟨vs, hh, _⟩ := h
    simp only [Blk.blk, Option.some.injEq] at hg
    subst hg
    exact (Array.getElem?_eq_some_iff.1 hh).1
  | row v e es xs =>
    obtain ⟨vals, ho, _⟩ := h
    exact (ho.lt g hg).2
  | mp g' ks ds =>
    obtain ⟨es, clock, hh, _⟩ := h
    simp only [Blk.blk, Option.some.injEq] at hg
    subst hg
    exact (Array.getElem?_eq_some_iff.1 hh).1
  | obj g' ob =>
    simp only [Blk.blk, Option.some.injEq] at hg
    subst hg
    exact (Array.getElem?_eq_some_iff.1 h.2).1
  | gap g' cap e es xs k ys =>
    obtain ⟨cur, hh, _⟩ := h
    simp only [Blk.blk, Option.some.injEq] at hg
    subst hg
    exact (Array.getElem?_eq_some_iff.1 hh).1

theorem own_lt {w : World} {o : Nat → Prop} {H : Hp} (h : HeapOK w o H) {g : Nat} (hg : own H g) : g < w.heap.size := by
  obtain ⟨b, hb, hbg⟩ := hg
  exact Blk.blk_lt (h.each b hb) hbg

theorem ownsRow_same {w w' : World} {base e es : Nat} {v : Value} {n : Nat} {xs : List Value} (h : w.ownsRow base e es v n xs)
    (hk : ∀ g, v.ownBlock = some g → w'.heap[g]? = w.heap[g]?) : w'.ownsRow base e es v n xs := by
  refine ⟨h.1, ?_⟩
  rcases h.2 with hn | ⟨g, cap, cur, rfl, hb, hgg, rest⟩
  · exact .inl hn
  · exact .inr ⟨g, cap, cur, rfl, hb, by rw [hk g rfl]; exact hgg, rest⟩

/-- An owned block that has not been written, in a world in which the rest means what it meant. -/
theorem Blk.ok_mono {w w' : World} {o o' : Nat → Prop} {b : Blk} (h : b.ok w o) (hsame : ∀ g, b.blk = some g → w'.heap[g]? = w.heap[g]?)
    (hr : ∀ d u, Rep w o d u → Rep w' o' d u) : b.ok w' o' := by
  cases b with
  | box g t cs =>
    obtain ⟨vs, hh, hs, hj⟩ := h
    exact ⟨vs, by rw [hsame g rfl]; exact hh, hs, fun j d u hd hu => ⟨(hj j d u hd hu).1, hr _ _ (hj j d u hd hu).2⟩⟩
  | row v e es xs =>
    obtain ⟨vals, ho, he, hj⟩ := h
    exact ⟨vals, ownsRow_same ho hsame, he, fun j d u hd hu => ⟨(hj j d u hd hu).1, hr _ _ (hj j d u hd hu).2⟩⟩
  | mp g ks ds =>
    obtain ⟨es, clock, hh, hs, hd, hk, hj⟩ := h
    exact ⟨es, clock, by rw [hsame g rfl]; exact hh, hs, hd, hk, fun j d e hd he => hr _ _ (hj j d e hd he)⟩
  | obj g ob => exact ⟨h.1, by rw [hsame g rfl]; exact h.2⟩
  | gap g cap e es xs k ys =>
    obtain ⟨cur, hh, hm, hs, hc, h1, h2, h3, h4⟩ := h
    exact ⟨cur, by rw [hsame g rfl]; exact hh, hm, hs, hc, h1, h2, fun j d u hd hu => ⟨(h3 j d u hd hu).1, hr _ _ (h3 j d u hd hu).2⟩, fun j d u hd hu => ⟨(h4 j d u hd hu).1, hr _ _ (h4 j d u hd hu).2⟩⟩

/-- Nothing that was there has turned: the heap means what it meant. -/
theorem HeapOK.keep {w w' : World} {o o' : Nat → Prop} {H : Hp} (h : HeapOK w o H) (k : Kept no w w') (ho : ∀ b, b < w.heap.size → o' b → o b) : HeapOK w' o' H :=
  ⟨fun b hb => Blk.ok_mono (h.each b hb) (fun _ hg => k.block _ (Blk.blk_lt (h.each b hb) hg) id) (fun _ _ hr => hr.kept k (fun _ _ hf => hf.elim) ho), h.apart⟩

abbrev Env := Nat → Option D
def Env.put (env : Env) (t : Nat) (d : Option D) : Env := fun t' => bif Nat.beq t' t then d else env t'
def Env.putO (env : Env) (t : Option Nat) (d : Option D) : Env := match t with | some t => env.put t d | none => env
def Env.of : List (Nat × D) → Env
  | [] => fun _ => none
  | (t, d) :: l => (Env.of l).put t (some d)
/-- The parameters, in slots 0, 1, .. -/
def Env.args : Nat → List D → Env
  | _, [] => fun _ => none
  | k, d :: ds => (Env.args (k + 1) ds).put k (some d)

def opD (env : Env) : Operand → Option D
  | .tmp t => env t
  | .const v => some (.v v)
  | .global g => some (.v (.pointer (some ⟨g, 0, none⟩)))
  | .func f => some (.fn f [])

/-- No fence but the round: r, the record of the loop over a function in whose round the frame stands. -/
abbrev fen (r : Option Nat) : Fence := { Fence.wide with round := r }

structure Ctx where
  P : Program
  n : Nat
  w0 : World
  F : Nat → Prop
  S : Nat → Prop
  r : Option Nat

/-- The marks of loops over functions among the deferred calls: of each its block, laid since the call began, holds none. -/
structure DefersOK (B : Nat) (r : Option Nat) (w : World) (l : List Deferred) : Prop where
  inRound : r ≠ none → l = []
  each : ∀ d ∈ l, ∃ g, B ≤ g ∧ d.target = .collected g ∧ w.heap[g]? = some (.deferred (some []))
  apart : l.Pairwise (fun d d' => ∀ g, d.target = .collected g → d'.target ≠ .collected g)

/-- The tables of unicode/utf8, where the program has them, are as they were laid, and no block of S. -/
structure GlobOK (P : Program) (w : World) (S : Nat → Prop) : Prop where
  tabs : ∀ a b, P.globalNamed "unicode/utf8.first" = some a → P.globalNamed "unicode/utf8.acceptRanges" = some b → Lib.Utf8Tabs a b w ∧ ¬ S a ∧ ¬ S b
theorem tabs_lt {a b : Nat} {w : World} (h : Lib.Utf8Tabs a b w) : a < w.heap.size ∧ b < w.heap.size :=
  ⟨block_lt_of_cell (h.1 0 (by omega)), block_lt_of_cell (h.2 0 (by omega)).1⟩
theorem tabs_keep {a b : Nat} {w w' : World} {T : Nat → Prop} (h : Lib.Utf8Tabs a b w) (k : Kept T w w') (ha : ¬ T a) (hb : ¬ T b) : Lib.Utf8Tabs a b w' :=
  ⟨fun c hc => by rw [World.cell?_of_block (w := w) (w' := w') (k.block _ (tabs_lt h).1 ha)]; exact h.1 c hc,
   fun i hi => ⟨by rw [World.cell?_of_block (w := w) (w' := w') (k.block _ (tabs_lt h).2 hb)]; exact (h.2 i hi).1, by rw [World.cell?_of_block (w := w) (w' := w') (k.block _ (tabs_lt h).2 hb)]; exact (h.2 i hi).2⟩⟩
theorem GlobOK.move {P : Program} {w w' : World} {S S' T : Nat → Prop} (h : GlobOK P w S) (k : Kept T w w') (hT : ∀ g, T g → S g ∨ ∃ o, w.heap[g]? = some (.loop o)) (hS : ∀ g, S' g → S g ∨ w.heap.size ≤ g) : GlobOK P w' S' := by
  refine ⟨fun a b ha hb => ?_⟩
  obtain ⟨ht, h1, h2⟩ := h.tabs a b ha hb
  have hl := tabs_lt ht
  have hc : ∀ g, (∃ v, w.cell? ⟨g, 0, none⟩ = some v) → ¬ S g → ¬ T g := fun g ⟨v, hv⟩ hs ht => by
    rcases hT g ht with h | ⟨o, ho⟩
    · exact hs h
    · simp [World.cell?, ho] at hv
  refine ⟨tabs_keep ht k (hc a ⟨_, ht.1 0 (by omega)⟩ h1) (hc b ⟨_, (ht.2 0 (by omega)).1⟩ h2), fun hs => ?_, fun hs => ?_⟩
  · rcases hS a hs with h | h
    · exact h1 h
    · omega
  · rcases hS b hs with h | h
    · exact h2 h
    · omega
theorem GlobOK.less {P : Program} {w : World} {S S' : Nat → Prop} (h : GlobOK P w S) (hS : ∀ g, S' g → S g) : GlobOK P w S' :=
  h.move (Kept.refl no w) (fun _ h => h.elim) (fun g hg => .inl (hS g hg))
/-- A program without these tables. -/
theorem GlobOK.none {P : Program} {w : World} {S : Nat → Prop} (h : P.globalNamed "unicode/utf8.first" = none) : GlobOK P w S := ⟨fun a b ha _ => by rw [h] at ha; cases ha⟩

/-- What is foreign to a call: laid before, and not owned. -/
structure Foreign (P : Program) (F : Nat → Prop) (w : World) (S : Nat → Prop) : Prop where
  lt : ∀ g, F g → g < w.heap.size ∧ ¬ S g
  glob : GlobOK P w S
instance {P : Program} {F : Nat → Prop} {w : World} {S : Nat → Prop} : CoeFun (Foreign P F w S) fun _ => ∀ g, F g → g < w.heap.size ∧ ¬ S g := ⟨Foreign.lt⟩

structure Sat (K : Ctx) (env : Env) (H : Hp) (a : Act) (w : World) : Prop where
  tmps : ∀ t d, env t = some d → ∃ u, a.tmps[t]? = some u ∧ Rep w (both K.F H) d u
  size : a.tmps.size = K.n
  defers : DefersOK K.w0.heap.size K.r w a.defers
  heap : HeapOK w (both K.F H) H
  kept : Kept K.S K.w0 w
  fresh : ∀ g, own H g → K.S g ∨ K.w0.heap.size ≤ g
  foreign : Foreign K.P K.F K.w0 K.S

def liftQ (K : Ctx) (Q : Exit → Env → Hp → Prop) (e : Exit) (a : Act) (w : World) : Prop := ∃ env H, Sat K env H a w ∧ Q e env H

def TC (K : Ctx) (c : Code) (Q : Exit → Env → Hp → Prop) (env : Env) (H : Hp) : Prop := ∀ a w, Sat K env H a w → c.wpIn (fen K.r) 0 K.P (liftQ K Q) a w
def TL (K : Ctx) (ops : Array Oper) (l : List Oper) (Q : Exit → Env → Hp → Prop) (env : Env) (H : Hp) : Prop :=
  ∀ a w, Sat K env H a w → wpListIn (fen K.r) 0 K.P ops (liftQ K Q) l a w

/-- The contract of a function over data: in whatever world the arguments mean ds and the heap that it may write is H: it returns, R holds of what its result means and of that heap; all else is as it was. -/
def CallD (P : Program) (f : FuncId) (ds : List D) (H : Hp) (R : D → Hp → Prop) : Prop :=
  ∀ (w : World) (F : Nat → Prop) (vs : List Value), vs.length = ds.length → (∀ (j : Nat) (d : D) (u : Value), ds[j]? = some d → vs[j]? = some u → Rep w (both F H) d u) →
    HeapOK w (both F H) H → Foreign P F w (own H) →
    Calls P f vs.toArray w fun e w' => ∃ v r H', e = .returned v ∧ R r H' ∧ Rep w' (both F H') r v ∧ HeapOK w' (both F H') H' ∧ Kept (own H) w w' ∧
      ∀ g, own H' g → own H g ∨ w.heap.size ≤ g
/-- The contract of a function that only reads, and hands back r. -/
def Fun (P : Program) (f : FuncId) (ds : List D) (r : D) : Prop := CallD P f ds [] fun r' H' => r' = r ∧ H' = []

theorem Blk.no_mark {w : World} {o : Nat → Prop} {b : Blk} (h : b.ok w o) {g : Nat} (hg : b.blk = some g) : w.heap[g]? ≠ some (.deferred (some [])) := by
  cases b with
  | box g' t cs =>
    obtain ⟨vs, hh, _⟩ := h
    simp only [Blk.blk, Option.some.injEq] at hg
    subst hg
    rw [hh]; simp
  | row v e es xs =>
    obtain ⟨vals, ho, _⟩ := h
    rcases ho.2 with hn | ⟨g', cap, cur, rfl, hb, hgg, _⟩
    · rw [hn.1] at hg; cases hg
    · simp only [Blk.blk, Value.ownBlock, Option.some.injEq] at hg
      subst hg
      rw [hgg]; simp
  | mp g' ks ds =>
    obtain ⟨es, clock, hh, _⟩ := h
    simp only [Blk.blk, Option.some.injEq] at hg
    subst hg
    rw [hh]; simp
  | obj g' ob =>
    simp only [Blk.blk, Option.some.injEq] at hg
    subst hg
    rw [h.2]; intro e; exact h.1 (Option.some.inj e)
  | gap g' cap e es xs k ys =>
    obtain ⟨cur, hh, _⟩ := h
    simp only [Blk.blk, Option.some.injEq] at hg
    subst hg
    rw [hh]; simp

theorem own_no_mark {w : World} {o : Nat → Prop} {H : Hp} (h : HeapOK w o H) {g : Nat} (hg : own H g) : w.heap[g]? ≠ some (.deferred (some [])) := by
  obtain ⟨b, hb, hbg⟩ := hg
  exact Blk.no_mark (h.each b hb) hbg

theorem DefersOK.nil (B : Nat) (r : Option Nat) (w : World) : DefersOK B r w [] := ⟨fun _ => rfl, fun _ h => (by cases h), .nil⟩
theorem DefersOK.keep {B : Nat} {r : Option Nat} {w w' : World} {S : Nat → Prop} {l : List Deferred} (h : DefersOK B r w l) (k : Kept S w w') (hS : ∀ g, S g → w.heap[g]? ≠ some (.deferred (some []))) : DefersOK B r w' l := by
  refine ⟨h.inRound, fun d hd => ?_, h.apart⟩
  obtain ⟨g, hB, ht, hg⟩ := h.each d hd
  have hlt : g < w.heap.size := (Array.getElem?_eq_some_iff.1 hg).1
  exact ⟨g, hB, ht, by rw [k.block g hlt (fun hs => hS g hs hg)]; exact hg⟩
theorem Sat.marks {K : Ctx} {env : Env} {H : Hp} {a : Act} {w w' : World} (h : Sat K env H a w) {S : Nat → Prop} (k : Kept S w w') (hS : ∀ g, S g → own H g) : DefersOK K.w0.heap.size K.r w' a.defers :=
  h.defers.keep k (fun g hg => own_no_mark h.heap (hS g hg))

/-- The block of a mark, at w. -/
def shutS (B : Nat) (w : World) (g : Nat) : Prop := B ≤ g ∧ w.heap[g]? = some (.deferred (some []))
theorem cell_not_shut {w : World} {a : Addr} {v : Value} {B : Nat} (h : w.cell? a = some v) : ¬ shutS B w a.block := fun hs => by
  simp [World.cell?, hs.2] at h
/-- Blocks of marks may be shut: no meaning leads to them. -/
theorem Rep.shut {w w' : World} {own' : Nat → Prop} {B : Nat} {d : D} {u : Value} (k : Kept (shutS B w) w w') (h : Rep w own' d u) : Rep w' own' d u := by
  have hcell : ∀ (p : Addr) (v : Value), w.cell? p = some v → w'.cell? p = some v := fun p v hv => by
    rw [World.cell?_of_block (w := w) (w' := w') (k.block _ (block_lt_of_cell hv) (cell_not_shut hv))]
    exact hv
  induction h with
  | v x => exact .v x
  | agg ds vs hs h1 h ih => exact .agg ds vs hs h1 ih
  | tup ds vs hs h ih => exact .tup ds vs hs ih
  | nil es => exact .nil es
  | sl es xs a c val hc he hb hcl hrep ih =>
    exact .sl es xs a c val hc he (fun hx => ⟨(hb hx).1, Nat.lt_of_lt_of_le (hb hx).2 k.size⟩) (fun i j x d hx hd => ⟨hcell _ _ (hcl i j x d hx hd).1, (hcl i j x d hx hd).2⟩) ih
  | at_ cs a val hne hb hcl hrep ih => exact .at_ cs a val hne hb (fun j d hd => ⟨hcell _ _ (hcl j d hd).1, (hcl j d hd).2⟩) ih
  | fn f caps vs hs h ih => exact .fn f caps vs hs ih
  | mp ks ds r es clock hr hn hs hd hk h ih =>
    refine .mp ks ds r es clock ?_ hn hs hd hk ih
    rw [k.block r (Array.getElem?_eq_some_iff.1 hr).1 (fun hs => by rw [hs.2] at hr; simp at hr)]
    exact hr
theorem HeapOK.shut {w w' : World} {o : Nat → Prop} {H : Hp} {B : Nat} (h : HeapOK w o H) (k : Kept (shutS B w) w w') : HeapOK w' o H :=
  ⟨fun b hb => Blk.ok_mono (h.each b hb) (fun g hg => k.block g (Blk.blk_lt (h.each b hb) hg) (fun hs => Blk.no_mark (h.each b hb) hg hs.2)) (fun _ _ hr => hr.shut k), h.apart⟩

/-- Leaving: the marks are taken one after another, then the results are read. -/
theorem leaves_of {F : Fence} {n : Nat} {P : Program} {fn : Func} {tmps : Array Value} {R : Ending → World → Prop} {B : Nat} : ∀ (l : List Deferred) (w w0 : World), DefersOK B none w l → Kept (shutS B w0) w0 w →
    (∀ w2, Kept (shutS B w0) w0 w2 → ∃ v, (results fn tmps).run P w2 = .ok v w2 ∧ R (.returned v) w2) → LeavesInM F n P fn tmps R l .returning w
  | [], w, w0, _, k, h => by
    unfold LeavesInM LeavesIn
    exact h w k
  | d :: l, w, w0, hl, k, h => by
    obtain ⟨g, hB, ht, hg⟩ := hl.each d (by simp)
    have hlt : g < w.heap.size := (Array.getElem?_eq_some_iff.1 hg).1
    have h0 : g < w0.heap.size → shutS B w0 g := fun hlt0 => by
      by_cases hs : shutS B w0 g
      · exact hs
      · exact ⟨hB, by rw [← k.block g hlt0 hs]; exact hg⟩
    unfold LeavesInM
    refine ⟨by simp, .inl ⟨g, _, ht, run_takeDeferred hg, ?_⟩⟩
    refine leaves_of l _ w0 ⟨fun h => absurd rfl h, fun d' hd' => ?_, (List.pairwise_cons.1 hl.apart).2⟩ ⟨k.os, k.tape, k.output, by rw [World.putObj_size]; exact k.size, fun b hb hs => ?_⟩ h
    · obtain ⟨g', hB', ht', hg'⟩ := hl.each d' (by simp [hd'])
      have hne : g' ≠ g := fun e => (List.pairwise_cons.1 hl.apart).1 d' hd' g ht (e ▸ ht')
      exact ⟨g', hB', ht', by rw [World.putObj_heap_other hne]; exact hg'⟩
    · have hne : b ≠ g := fun e => hs (e ▸ h0 (e ▸ hb))
      rw [World.putObj_heap_other hne]
      exact k.block b hb hs

section
variable {r : Option Nat} {P : Program} {o : Oper} {a : Act} {w w' : World} {next : Act → World → Prop} {Q : Exit → Act → World → Prop}
theorem wpIn_ok (hd : ∀ c, o.op ≠ .defer c) {res : Result Next} (h : (execOp a.eval o).run P w = res) (hn : o.uponIn (fen r) 0 P a next Q res) : o.wpIn (fen r) 0 P a w next Q := by
  refine ⟨fun _ _ => trivial, ?_⟩
  have e : Oper.semAt (fen r).round a.eval o = execOp a.eval o := by
    cases r with
    | none => simp [Oper.semAt]
    | some l => exact Oper.semAt_some l _ _ hd
  rw [e, h]
  exact hn
theorem calls_fen {f : FuncId} {args : Array Value} {R : Ending → World → Prop} {n : Nat} (h : Calls P f args w R) : CallsIn (fen r) n P f args w R := by
  cases r with
  | none => exact callsIn_wide.2 h
  | some l => exact CallsIn.inRound l (callsIn_wide.2 h)
theorem fen_shallow {n : Nat} : (fen r).depth.isSome = true → 1 ≤ n := fun h => by cases h
end

theorem own_nil (g : Nat) : ¬ own [] g := by rintro ⟨b, hb, _⟩; cases hb

end Go.Ob
