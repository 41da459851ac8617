import Derived.Test.YtcfnfioefbkamaaDoorS13
import Derived.Test.YtcfnfioefbkamaaDoorObY
import Derived.Laws.IdiomStrings
import Derived.Laws.Cover4
set_option linter.unusedVariables false
set_option linter.unusedSimpArgs false
set_option linter.unusedSectionVars false
namespace Go.Ob
open Go.Proofs
open Go.RowKit

def encR32 (l : List Int) : List (List D) := l.map fun x => [.v (.int .i32 x)]
theorem encR32_len (l : List Int) : (encR32 l).length = l.length := by simp [encR32]
theorem encR32_flat : ∀ l : List Int, (encR32 l).flatten = l.map fun x => D.v (.int .i32 x)
  | [] => rfl
  | n :: l => by
    show ([[D.v (.int .i32 n)]] ++ encR32 l).flatten = _
    rw [List.flatten_append, encR32_flat l]; rfl
theorem encR32_each (l : List Int) : ∀ x ∈ encR32 l, x.length = 1 := by
  intro x hx; obtain ⟨_, _, rfl⟩ := List.mem_map.1 hx; rfl
section
variable {P : Program} {H : Hp} {env : Env} {dst : Option Tmp} {ty : TypeId} {pos : String} {af : Array Edge} {gd : Option (Nat × Bool)} {x y : Operand} {t t2 : TypeId}
/-- the string of a slice of runes -/
theorem pure_conv_runes_str {s d e : TypeId} {ns : List Int} (hs : P.underlying s = some (.slice e)) (he : P.underlying e = some (.int .i32)) (hd : P.underlying d = some .string) (hx : opD env x = some (.sl 1 (encR32 ns))) :
    Pure P H ⟨dst, .convert s d x, ty, pos, af, gd⟩ env (.v (.string (runesBytes ns))) := pure_of fun w _ ρ _ h => by
  have e1 := h x (by simp [Op.operands]) _ hx
  refine ⟨_, ?_, .v _⟩
  have hrow := Rep.sl_row (by decide) e1
  rcases hrow with ⟨hu, hn⟩ | ⟨a, c, news, hu, hl, _, hc, _, hv⟩
  · have hn0 : ns = [] := by simpa [encR32] using hn
    subst hn0
    simp only [execOp, hu]
    rw [Sem.run_bind, run_convert_runes_nil w s d e 0 0 hs he hd]
    rfl
  · simp only [execOp, hu]
    have hl' : news = ns.map (Value.int .i32) := by
      apply List.ext_getElem?
      intro j
      rcases Nat.lt_or_ge j ns.length with h | h
      · have hj : j < news.length := by rw [hl, encR32_len]; omega
        have hfl := encR32_flat ns
        have := (hv j _ news[j] (by rw [hfl, List.getElem?_map, List.getElem?_eq_getElem h]; rfl) (List.getElem?_eq_getElem hj)).2
        have h2 := Rep.of_v this
        rw [List.getElem?_eq_getElem hj, List.getElem?_map, List.getElem?_eq_getElem h, h2]; rfl
      · rw [List.getElem?_eq_none (by rw [hl, encR32_len]; omega), List.getElem?_eq_none (by simpa using h)]
    have hlc : (loadCells a (encR32 ns).length).run P w = .ok (ns.map (Value.int .i32)).toArray w := by
      have := run_loadCells_list (P := P) w a (ns.map (Value.int .i32)) (fun j v hj => hc j v (by rw [hl']; exact hj))
      simpa [encR32_len] using this
    rw [Sem.run_bind, run_convert_runes_string w s d e _ _ c hs he hd, run_runesToString w a _ c ns hlc, Result.andThen_ok, Sem.run_pure]
/-- the runes of a string -/
theorem pure_conv_runes {s d e bytes : Nat} {u : ByteArray} {ns : List Int} (hs : P.underlying s = some .string) (ht : AppT P d e 1 bytes) (he : P.underlying e = some (.int .i32)) (hn : Conv.runesFrom u u.size 0 #[] = (ns.map (Value.int .i32)).toArray) (hl : ns.length ≤ 1000000000)
    (hx : opD env x = some (.v (.string u))) : Pure P H ⟨dst, .convert s d x, ty, pos, af, gd⟩ env (.sl 1 (encR32 ns)) := by
  intro w F a hh hF hx' r next Q hnx
  have e1 := Rep.of_v (hx' x (by simp [Op.operands]) _ hx)
  have hsz : (Conv.runesFrom u u.size 0 #[]).size = ns.length := by rw [hn]; simp
  have hrun := run_runes_of_string w s d e u hs ht.under he (by rw [hsz]; omega)
  rw [hsz, hn] at hrun
  obtain ⟨c2, hc2⟩ : ∃ c2, c2 = grownCap w ns.length 0 e := ⟨_, rfl⟩
  have hge : ns.length ≤ c2 := by rw [hc2]; exact grownCap_ge w _ _ e
  have hcm : c2 ≤ maxLen := by rw [hc2]; exact grownCap_le_maxLen w _ _ e (by simp only [maxLen]; omega)
  rw [← hc2] at hrun
  have hrun2 : (execOp a.eval ⟨dst, .convert s d x, ty, pos, af, gd⟩).run P w = .ok (.value (.slice (some ⟨w.heap.size, 0, none⟩) ns.length c2)) (w.drew.alloc (.cells ((ns.map (Value.int .i32)).toArray ++ Array.replicate (c2 - ns.length) (.int .i32 0)) e)) := by
    simp only [execOp, e1, Sem.run_bind, hrun, Result.andThen_ok, Sem.run_pure]
  refine wpIn_ok (fun _ h => by cases h) hrun2 ?_
  have hk : Kept no w (w.drew.alloc (.cells ((ns.map (Value.int .i32)).toArray ++ Array.replicate (c2 - ns.length) (.int .i32 0)) e)) := (Kept.drew no w).trans (Kept.alloc no _ _)
  refine hnx _ _ ?_ hk
  refine row_data (e := e) ht.pos ⟨ns.map (Value.int .i32), ⟨by rw [encR32_len, List.length_map, Nat.mul_one], .inr ⟨w.heap.size, c2, _, by rw [encR32_len], Nat.zero_le _, heap_alloc_new w.drew _, by rw [encR32_len]; exact hge, hcm, ?_, ?_⟩⟩, encR32_each ns, fun j d u hd hu => ?_⟩ (fun g hg => ?_)
  · simp only [Array.size_append, List.size_toArray, List.length_map, Array.size_replicate]; omega
  · simp [encR32]
  · rw [encR32_flat, List.getElem?_map] at hd
    rw [List.getElem?_map] at hu
    cases hj : ns[j]? with
    | none => rw [hj] at hd; cases hd
    | some z =>
      rw [hj] at hd hu
      obtain rfl := Option.some.inj hd
      obtain rfl := Option.some.inj hu
      exact ⟨rfl, .v _⟩
  · simp only [Value.ownBlock, Option.some.injEq] at hg
    subst hg
    rintro (hFg | ⟨b, hb, hbg⟩)
    · have := (hF _ hFg).1; omega
    · have := Blk.blk_lt (hh.each b hb) hbg; omega
end

/-! ### runes of a valid string -/
theorem pts_drop {s : ByteArray} {k : Nat} (h : k < nR s) : (pts s).drop k = ptN s k :: (pts s).drop (k + 1) := by
  rw [List.drop_eq_getElem_cons (by rw [pts_len]; exact h)]
  congr 1
  simp [pts, ptsTo]
theorem runes_from (s : ByteArray) : ∀ f k (acc : Array Value), s.size ≤ rpos s k + f → Conv.runesFrom s f (rpos s k) acc = acc ++ (((pts s).drop k).map (Value.int .i32)).toArray
  | 0, k, acc, h => by
    have hk : nR s ≤ k := by
      rcases Nat.lt_or_ge k (nR s) with h1 | h1
      · have := nR_lt.1 h1; omega
      · exact h1
    rw [List.drop_eq_nil_of_le (by rw [pts_len]; exact hk)]
    simp [Conv.runesFrom]
  | f + 1, k, acc, h => by
    unfold Conv.runesFrom
    by_cases hk : rpos s k < s.size
    · rw [if_pos hk]
      have hl := rpos_lt s k
      have ih := runes_from s f (k + 1) (acc.push (.int .i32 (Int.ofNat (Utf8.decode s (rpos s k)).1))) (by omega)
      rw [rpos] at ih
      rw [pts_drop (nR_lt.2 hk)]
      show Conv.runesFrom s f (rpos s k + (Utf8.decode s (rpos s k)).2) (acc.push (.int .i32 (Int.ofNat (Utf8.decode s (rpos s k)).1))) = _
      rw [ih]
      simp only [List.map_cons]
      apply Array.toList_inj.1
      simp [ptN]
    · rw [if_neg hk]
      have h1 : nR s ≤ k := by
        rcases Nat.lt_or_ge k (nR s) with h1 | h1
        · exact absurd (nR_lt.1 h1) hk
        · exact h1
      rw [List.drop_eq_nil_of_le (by rw [pts_len]; exact h1)]
      simp
theorem runes_all (s : ByteArray) : Conv.runesFrom s s.size 0 #[] = ((pts s).map (Value.int .i32)).toArray := by
  have h := runes_from s s.size 0 #[] (by omega)
  rw [rpos] at h
  rw [h]; simp
theorem utf8_enc {p : Int} (h0 : 0 ≤ p) (h1 : p ≤ 1114111) (h2 : ¬ (p ≥ 55296 ∧ p ≤ 57343)) : Utf8.encode p = encU p := by
  obtain ⟨n, rfl⟩ : ∃ n : Nat, p = n := ⟨p.toNat, by omega⟩
  have hv : Utf8.valid (n : Int) = true := by unfold Utf8.valid; simp; omega
  unfold Utf8.encode encU encN
  simp only [hv, if_true, Int.toNat_natCast]
  rcases szP_cases (n : Int) with ⟨e, a⟩ | ⟨e, a, b⟩ | ⟨e, a, b⟩ | ⟨e, a⟩
  · rw [if_pos a, if_pos (by omega)]; rfl
  · rw [if_neg (by omega), if_pos (by omega), if_neg (by omega), e]
    show _ = strOfNums [192 + (n : Int) / 64, 128 + (n : Int) % 64]
    unfold strOfNums
    simp only [List.map_cons, List.map_nil]
    rw [show (192 + (n : Int) / 64).toNat = 0xC0 + n / 64 by omega, show (128 + (n : Int) % 64).toNat = 0x80 + n % 64 by omega]
  · rw [if_neg (by omega), if_neg (by omega), if_pos (by omega), if_neg (by omega), e]
    show _ = strOfNums [224 + (n : Int) / 64 / 64, 128 + (n : Int) / 64 % 64, 128 + (n : Int) % 64]
    unfold strOfNums
    simp only [List.map_cons, List.map_nil]
    rw [show (224 + (n : Int) / 64 / 64).toNat = 0xE0 + n / 4096 by omega, show (128 + (n : Int) / 64 % 64).toNat = 0x80 + n / 64 % 64 by omega, show (128 + (n : Int) % 64).toNat = 0x80 + n % 64 by omega]
  · rw [if_neg (by omega), if_neg (by omega), if_neg (by omega), if_neg (by omega), e]
    show _ = strOfNums [240 + (n : Int) / 64 / 64 / 64, 128 + (n : Int) / 64 / 64 % 64, 128 + (n : Int) / 64 % 64, 128 + (n : Int) % 64]
    unfold strOfNums
    simp only [List.map_cons, List.map_nil]
    rw [show (240 + (n : Int) / 64 / 64 / 64).toNat = 0xF0 + n / 262144 by omega, show (128 + (n : Int) / 64 / 64 % 64).toNat = 0x80 + n / 4096 % 64 by omega, show (128 + (n : Int) / 64 % 64).toNat = 0x80 + n / 64 % 64 by omega, show (128 + (n : Int) % 64).toNat = 0x80 + n % 64 by omega]
def PtP (p : Int) : Prop := 0 ≤ p ∧ p ≤ 1114111 ∧ ¬ (p ≥ 55296 ∧ p ≤ 57343)
theorem enc_at {s : ByteArray} {k : Nat} (hok : okS s = true) (hk : k < nR s) : PtP (ptN s k) ∧ Utf8.encode (ptN s k) = s.extract (rpos s k) (rpos s (k + 1)) := by
  have hlt := nR_lt.1 hk
  obtain ⟨q1, q2, q3, q4⟩ := dec_rest hok hlt
  obtain ⟨n, hn, n1, n4, hin, hct, hpb, hd1, hd2⟩ := dec_ok q1 q2
  have hp := pt_ok n1 n4 hpb
  have he := enc_full hn n1 hin hct hpb
  rw [← hd1, q3] at he hp
  refine ⟨hp, ?_⟩
  rw [utf8_enc hp.1 hp.2.1 hp.2.2, he, ByteArray.extract_extract]
  rw [hd2] at q4
  have hrm := rpos_mono s (show k + 1 ≤ nR s by omega)
  rw [nR_end] at hrm
  rw [Nat.add_zero, show min (rpos s k + n) s.size = rpos s (k + 1) by omega]
theorem runesBytes_snoc (l : List Int) (x : Int) : runesBytes (l ++ [x]) = runesBytes l ++ Utf8.encode x := by simp [runesBytes]
theorem pts_take {s : ByteArray} {k : Nat} (h : k ≤ nR s) : (pts s).take k = ptsTo s k := by
  apply List.ext_getElem
  · simp [pts, ptsTo]; omega
  · intro i h1 h2; simp [pts, ptsTo]
theorem runes_sub {s : ByteArray} (hok : okS s = true) {a : Nat} : ∀ d, a + d ≤ nR s → runesBytes (((pts s).drop a).take d) = s.extract (rpos s a) (rpos s (a + d))
  | 0, _ => by
    rw [List.take_zero, Nat.add_zero]
    apply ByteArray.ext
    apply Array.toList_inj.1
    rw [ByteArray.data_extract, Array.toList_extract, List.extract_eq_take_drop, Nat.sub_self, List.take_zero]; rfl
  | d + 1, h => by
    have hl : d < ((pts s).drop a).length := by rw [List.length_drop, pts_len]; omega
    rw [List.take_succ_eq_append_getElem hl, runesBytes_snoc, runes_sub hok d (by omega)]
    have e : ((pts s).drop a)[d] = ptN s (a + d) := by simp [pts, ptsTo]
    rw [e, (enc_at hok (show a + d < nR s by omega)).2, ByteArray.extract_append_extract]
    have h1 := rpos_mono s (show a ≤ a + d by omega)
    have h2 := rpos_lt s (a + d)
    rw [show a + d + 1 = a + (d + 1) by omega] at h2 ⊢
    rw [Nat.min_eq_left h1, Nat.max_eq_right (by omega)]
/-! ### the strings of the tokens -/
def tS (s : ByteArray) (m : Nat) : ByteArray := s.extract (rpos s (fT (scL s) (bnds (cls s)) m).toNat) (rpos s (fT (scL s) (bnds (cls s)) (m + 1)).toNat)
def selT (w : Bool) (k : Int) : Prop := w = false ∨ k = 1 ∨ k = 2
instance (w : Bool) (k : Int) : Decidable (selT w k) := by unfold selT; infer_instance
def txTo (s : ByteArray) (w : Bool) : Nat → List (List D)
  | 0 => []
  | m + 1 => txTo s w m ++ (if selT w (kT (scL s) m) then [[.v (.string (tS s m))]] else [])
def txV (s : ByteArray) (w : Bool) : List (List D) := if okS s = true then txTo s w (nT (scL s)) else []
theorem txTo_len (s : ByteArray) (w : Bool) : ∀ m, (txTo s w m).length ≤ m
  | 0 => Nat.le_refl _
  | m + 1 => by
    have := txTo_len s w m
    rw [txTo, List.length_append]
    split
    · simp only [List.length_cons, List.length_nil]; omega
    · simp only [List.length_nil]; omega
theorem txTo_each (s : ByteArray) (w : Bool) : ∀ m, ∀ x ∈ txTo s w m, x.length = 1
  | 0, x, h => by cases h
  | m + 1, x, h => by
    rw [txTo] at h
    rcases List.mem_append.1 h with h | h
    · exact txTo_each s w m x h
    · split at h
      · rw [List.mem_singleton.1 h]; rfl
      · cases h
theorem txF_len (s : ByteArray) : ∀ m, (txTo s false m).length = m
  | 0 => rfl
  | m + 1 => by rw [txTo, if_pos (show selT false _ from .inl rfl), List.length_append, txF_len s m]; rfl
theorem txTo_pre (s : ByteArray) (w : Bool) {i : Nat} : ∀ {n}, i ≤ n → ∃ r, txTo s w n = txTo s w i ++ r
  | 0, h => ⟨[], by rw [show i = 0 by omega, List.append_nil]⟩
  | n + 1, h => by
    rcases Nat.lt_or_eq_of_le h with h1 | h1
    · obtain ⟨r, hr⟩ := txTo_pre s w (i := i) (n := n) (by omega)
      exact ⟨_, by rw [txTo, hr, List.append_assoc]⟩
    · exact ⟨[], by rw [h1, List.append_nil]⟩
theorem txTo_at (s : ByteArray) (w : Bool) {i n : Nat} (h : i < n) (hs : selT w (kT (scL s) i)) : (txTo s w i).length < (txTo s w n).length ∧ (txTo s w n)[(txTo s w i).length]? = some [.v (.string (tS s i))] := by
  obtain ⟨r, hr⟩ := txTo_pre s w (i := i + 1) (n := n) h
  rw [hr, txTo, if_pos hs]
  constructor
  · simp only [List.length_append, List.length_singleton]; omega
  · simp
theorem kT_range (c : List Int) (m : Nat) : 1 ≤ kT c m ∧ kT c m ≤ 6 := by
  unfold kT kindT
  have h : ∀ (c : List Int) (i n : Nat), wkTo c i n = 1 ∨ wkTo c i n = 2 := by
    intro c i n
    induction n with
    | zero => exact .inr rfl
    | succ n ih => rw [wkTo]; split <;> first | exact .inl rfl | exact ih
  repeat' split
  all_goals first | omega | (have := h c (posT c m) (endT c (posT c m) - posT c m); omega)
theorem tok_pos {s : ByteArray} (hok : okS s = true) {m : Nat} (hm : m < nT (scL s)) : ∃ a d : Nat, fT (scL s) (bnds (cls s)) m = a ∧ fT (scL s) (bnds (cls s)) (m + 1) = ((a + d : Nat) : Int) ∧ a + d ≤ nR s := by
  have h := tok_ok hok
  have h1 := h.ge (j := m) (by omega)
  have h2 := h.ge (j := m + 1) (by omega)
  have h3 := h.lt m hm
  exact ⟨(fT (scL s) (bnds (cls s)) m).toNat, (fT (scL s) (bnds (cls s)) (m + 1) - fT (scL s) (bnds (cls s)) m).toNat, by omega, by omega, by omega⟩
def accS (s : ByteArray) (i : Nat) : ByteArray := s.extract 0 (rpos s (fT (scL s) (bnds (cls s)) i).toNat)
theorem accS_zero {s : ByteArray} (hok : okS s = true) : accS s 0 = ByteArray.empty := by
  unfold accS
  rw [(tok_ok hok).z]
  apply ByteArray.ext
  apply Array.toList_inj.1
  rw [ByteArray.data_extract, Array.toList_extract]
  show (s.data.toList.extract 0 (rpos s 0)) = _
  rw [rpos, List.extract_eq_take_drop]; rfl
theorem accS_succ {s : ByteArray} (hok : okS s = true) {i : Nat} (hi : i < nT (scL s)) : accS s i ++ tS s i = accS s (i + 1) := by
  unfold accS tS
  have h := rpos_mono s (show (fT (scL s) (bnds (cls s)) i).toNat ≤ (fT (scL s) (bnds (cls s)) (i + 1)).toNat by have := (tok_ok hok).lt i hi; omega)
  rw [ByteArray.extract_append_extract, Nat.min_eq_left (Nat.zero_le _), Nat.max_eq_right h]
theorem accS_end {s : ByteArray} (hok : okS s = true) : accS s (nT (scL s)) = s := by
  unfold accS
  rw [(tok_ok hok).e, Int.toNat_natCast, nR_end]
  exact ByteArray.extract_zero_size
set_option maxRecDepth 100000 in
theorem RFirst_spec (s : ByteArray) (hok : okS s = true) (hs : s.size ≤ 1000000000) : Fun Tryd.prog 49 [.v (.string s)] (.v (.int .i64 (-1))) := by
  refine Fun.enter (n := 23) (rs := [.tmp 2]) Tryd.func49 rfl Tryd.ntmps49 Tryd.results49 rfl (fun w F => ?_); refine TC.seq ?_; refine TC.region ?_; refine TL.run1 (pure_assign rfl) rfl ?_; refine TL.nil' ?_; (iterate 2 refine TC.seq ?_); refine TC.region ?_; refine TL.run1 (pure_assign rfl) rfl ?_; refine TL.nil' ?_; refine TC.block ?_; refine TC.loopX (X := Nat) (fun k => [(0, .v (.string s)), (3, .v (.int .i64 (rpos s k : Nat)))]) (fun k => []) (fun k => (k ≤ nR s)) (fun k => s.size - rpos s k) (0) ⟨by skip; repeat (first | exact Agree.nil | refine Agree.cons rfl ?_), by skip; repeat (first | exact List.nil_sublist _ | exact List.Sublist.refl _ | apply List.Sublist.cons_cons | apply List.Sublist.cons)⟩ ?_ ?_
  · skip
    exact Nat.zero_le _
  intro k
  intro k1
  show TC _ _ _ (Env.of [(0, .v (.string s)), (3, .v (.int .i64 (rpos s k : Nat)))]) []
  (iterate 2 refine TC.seq ?_); refine TC.region ?_; (iterate 2 refine TL.run1 (pure_move rfl) rfl ?_); refine TL.run1 (pure_len_str Tryd.underlying9 rfl) rfl ?_; refine TL.run1 (pure_lss rfl rfl) rfl ?_; refine TL.nil' ?_; refine TC.condD rfl (fun hc9 => ?_) (fun hc9 => ?_)
  · try dsimp only at hc9
    refine TC.skip' ?_; refine TC.block ?_; refine TC.seq ?_
    have hlt : rpos s k < s.size := by omega
    have hkk := nR_lt.2 hlt
    have hrl := rpos_lt s k
    obtain ⟨q1, q2, q3, q4⟩ := dec_rest hok hlt
    have hrm := rpos_mono s (show k + 1 ≤ nR s by omega)
    rw [nR_end] at hrm
    refine TC.region ?_; (iterate 2 refine TL.run1 (pure_move rfl) rfl ?_); refine TL.run1 (pure_slice_str (l := rpos s k) (h := s.size) Tryd.underlying9 rfl rfl rfl (by omega) (by omega)) rfl ?_; refine TL.run1 (pure_call (Decode_spec (s.extract (rpos s k) s.size) q1 q2 (by rw [ByteArray.size_extract]; omega)) (.cons rfl .nil) Tryd.call70) rfl ?_; refine TL.run1 (pure_move rfl) rfl ?_; (iterate 2 refine TL.run1 (pure_extract rfl rfl) rfl ?_); (iterate 2 refine TL.run1 (pure_assign rfl) rfl ?_); refine TL.nil' ?_; (iterate 2 refine TC.seq ?_); refine TC.region ?_; refine TL.run1 (pure_move rfl) rfl ?_; refine TL.run1 (pure_eql rfl rfl) rfl ?_; refine TL.nil' ?_; refine TC.condD rfl (fun hc18 => ?_) (fun hc18 => ?_)
    · try dsimp only at hc18
      exfalso; omega
    · try dsimp only at hc18
      refine TC.skip' ?_; refine TC.region ?_; (iterate 2 refine TL.run1 (pure_move rfl) rfl ?_); refine TL.run1 (pure_add rfl rfl (mkI64 (by omega) (by omega))) rfl ?_; refine TL.run1 (pure_assign rfl) rfl ?_; refine TL.nil ?_; refine block_normal ?_; refine loop_next (k + 1) ⟨by ((try dsimp only); rw [show ((rpos s (k + 1) : Nat) : Int) = (rpos s k : Int) + (((Utf8.decode (s.extract (rpos s k) s.size) 0).2 : Nat) : Int) by omega]; repeat (first | exact Agree.nil | refine Agree.cons rfl ?_)), by repeat (first | exact List.nil_sublist _ | exact List.Sublist.refl _ | apply List.Sublist.cons_cons | apply List.Sublist.cons)⟩ (show k + 1 ≤ _ by omega) (by omega)
  · try dsimp only at hc9
    refine TC.exit ?_; refine then_exit ?_; refine loop_exit ?_; refine block_here ?_; refine then_normal ?_; refine TC.seq ?_; refine TC.region ?_; refine TL.run1 (pure_assign rfl) rfl ?_; refine TL.nil' ?_; refine TC.ret ?_
    exact ret_int rfl rfl
set_option maxRecDepth 100000 in
theorem RMake_spec (l : List Int) (hl : ∀ x ∈ l, PtP x) (hn : l.length ≤ 1000000) : Fun Tryd.prog 50 [.sl 1 (encI l)] (.v (.string (runesBytes l))) := by
  refine Fun.enter (n := 19) (rs := [.tmp 2]) Tryd.func50 rfl Tryd.ntmps50 Tryd.results50 rfl (fun w F => ?_)
  have hk := encI_len l
  refine TC.seq ?_; refine TC.region ?_; refine TL.run1 (pure_assign rfl) rfl ?_; refine TL.nil' ?_; refine TC.seq ?_; refine TC.region ?_; refine TL.run1 (pure_assign rfl) rfl ?_; refine TL.nil' ?_; (iterate 2 refine TC.seq ?_); refine TC.region ?_; refine TL.run1 (pure_assign rfl) rfl ?_; refine TL.nil' ?_; refine TC.block ?_; refine TC.loopX (X := Nat) (fun i => [(0, .sl 1 (encI l)), (3, .v (.string (runesBytes (l.take i)))), (4, .v (.int .i64 i))]) (fun i => []) (fun i => (i ≤ l.length)) (fun i => l.length - i) (0) ⟨by skip; repeat (first | exact Agree.nil | refine Agree.cons rfl ?_), by skip; repeat (first | exact List.nil_sublist _ | exact List.Sublist.refl _ | apply List.Sublist.cons_cons | apply List.Sublist.cons)⟩ ?_ ?_
  · skip
    exact Nat.zero_le _
  intro i
  intro h1
  show TC _ _ _ (Env.of [(0, .sl 1 (encI l)), (3, .v (.string (runesBytes (l.take i)))), (4, .v (.int .i64 i))]) []
  (iterate 2 refine TC.seq ?_); refine TC.region ?_; (iterate 2 refine TL.run1 (pure_move rfl) rfl ?_); refine TL.run1 (pure_len Ty.sl35 rfl) rfl ?_; refine TL.run1 (pure_lss rfl rfl) rfl ?_; refine TL.nil' ?_; refine TC.condD rfl (fun hc8 => ?_) (fun hc8 => ?_)
  · try dsimp only at hc8
    refine TC.skip' ?_; refine TC.seq ?_; refine TC.block ?_
    have hil : i < l.length := by omega
    have hp := hl (iAt l i) (iAt_mem l i hil)
    have he := utf8_enc hp.1 hp.2.1 hp.2.2
    have hrow : (encI l)[((i : Nat) : Int).toNat]? = some [.v (.int .i64 (iAt l i))] := encI_get l i (by omega) (by omega)
    have hz1 := runesBytes_size_le (l.take i)
    rw [List.length_take] at hz1
    have hz2 := encode_size_le (iAt l i)
    rw [he] at hz2
    refine TC.region ?_; (iterate 3 refine TL.run1 (pure_move rfl) rfl ?_); refine TL.run1 (pure_indexAddr Ty.sl35 rfl rfl (by omega) hrow (List.cons_ne_nil _ _)) rfl ?_; refine TL.run1 (pure_load1 Ty.one3 rfl) rfl ?_; refine TL.run1 (pure_call (Encode_spec (iAt l i) hp.1 hp.2.1) (.cons rfl .nil) Tryd.call75) rfl ?_; refine TL.run1 (pure_add_string (a := runesBytes (l.take i)) (b := encU (iAt l i)) rfl rfl (by omega)) rfl ?_; refine TL.run1 (pure_assign rfl) rfl ?_; refine TL.nil ?_; refine block_normal ?_; refine then_normal ?_; refine TC.region ?_; refine TL.run1 (pure_move rfl) rfl ?_; refine TL.run1 (pure_add rfl rfl (mkI64 (by omega) (by omega))) rfl ?_; refine TL.run1 (pure_assign rfl) rfl ?_; refine TL.nil ?_
    have htk : l.take (i + 1) = l.take i ++ [iAt l i] := by (rw [List.take_succ_eq_append_getElem (by omega)]; unfold iAt; simp [show i < l.length by omega])
    refine loop_next (i + 1) ⟨by ((try dsimp only); rw [htk, runesBytes_snoc, he, show (((i + 1 : Nat)) : Int) = (i : Int) + 1 by omega]; repeat (first | exact Agree.nil | refine Agree.cons rfl ?_)), by repeat (first | exact List.nil_sublist _ | exact List.Sublist.refl _ | apply List.Sublist.cons_cons | apply List.Sublist.cons)⟩ (show i + 1 ≤ _ by omega) (by omega)
  · try dsimp only at hc8
    refine TC.exit ?_; refine then_exit ?_; refine loop_exit ?_; refine block_here ?_; refine then_normal ?_; refine TC.seq ?_; refine TC.region ?_; refine TL.run1 (pure_move rfl) rfl ?_; refine TL.run1 (pure_assign rfl) rfl ?_; refine TL.nil' ?_; refine TC.ret ?_
    exact ret_str rfl (by rw [List.take_of_length_le (by omega)])
set_option maxRecDepth 100000 in
theorem RSlice_spec (s : ByteArray) (a d : Nat) (hok : okS s = true) (hd : a + d ≤ nR s) (hs : s.size ≤ 1000000) : Fun Tryd.prog 26 [.v (.string s), .v (.int .i64 (a : Nat)), .v (.int .i64 ((a + d : Nat) : Int))] (.tup [.v (.string (s.extract (rpos s a) (rpos s (a + d)))), .v (.int .i64 0)]) := by
  refine Fun.enter (n := 32) (rs := [.tmp 6, .tmp 7]) Tryd.func26 rfl Tryd.ntmps26 Tryd.results26 rfl (fun w F => ?_)
  have hnl := nR_le s
  have hkl := encI_len (pts s)
  have hpl := pts_len s
  have hpt : ∀ x ∈ ((pts s).drop a).take d, PtP x := by (intro x hx; obtain ⟨k, hk, rfl⟩ := List.mem_map.1 (List.mem_of_mem_drop (List.mem_of_mem_take hx)); exact (enc_at hok (List.mem_range.1 hk)).1)
  have hsl : ((encI (pts s)).take (a + d)).drop a = encI (((pts s).drop a).take d) := by (rw [List.drop_take, Nat.add_sub_cancel_left]; simp [encI])
  have hrs := runes_sub hok (a := a) d hd
  refine TC.seq ?_; refine TC.region ?_; (iterate 2 refine TL.run1 (pure_assign rfl) rfl ?_); refine TL.nil' ?_; (iterate 2 refine TC.seq ?_); refine TC.region ?_; refine TL.run1 (pure_move rfl) rfl ?_; refine TL.run1 (pure_call (RFirst_spec s hok (by omega)) (.cons rfl .nil) Tryd.call49) rfl ?_; refine TL.run1 (pure_geq rfl rfl) rfl ?_; refine TL.nil' ?_; refine TC.condD rfl (fun hc11 => ?_) (fun hc11 => ?_)
  · try dsimp only at hc11
    exact absurd hc11 (by decide)
  · try dsimp only at hc11
    refine TC.skip' ?_; refine TC.seq ?_; refine TC.region ?_; refine TL.run1 (pure_move rfl) rfl ?_; refine TL.run1 (pure_call (RPoints_spec s hok (by omega)) (.cons rfl .nil) Tryd.call40) rfl ?_; refine TL.run1 (pure_assign rfl) rfl ?_; refine TL.nil' ?_; refine TC.seq ?_; refine TC.regionCut [14, 15, 16, 17, 18, 19, 20, 21, 22, 23, 24, 25, 26] 26 (False) ?_ ?_
    · skip
      refine TL.run1 (pure_move rfl) rfl ?_; refine TL.run1 (pure_lss rfl rfl) rfl ?_; refine TL.run1 (pure_move rfl) rfl ?_; refine TL.splitP 16 rfl (fun hg16 => ?_) (fun hg16 => ?_)
      · try dsimp only at hg16
        (iterate 3 refine TL.passG rfl rfl rfl rfl ?_); refine TL.run1 (pure_pick_true rfl rfl) rfl ?_; refine TL.run1 (pure_move rfl) rfl ?_; (iterate 4 refine TL.passG rfl rfl rfl rfl ?_); refine TL.run1 (pure_pick_true rfl rfl) rfl ?_; refine TL.cutEnd (by repeat (first | exact Same.refl _ _ | refine Same.put rfl ?_)) rfl ?_
        first | (simp only [decide_eq_true_eq, iff_false]; omega) | (simp; omega) | (simp_all; done) | (simp_all; omega)
      · try dsimp only at hg16
        (iterate 2 refine TL.runG rfl rfl (pure_move rfl) rfl ?_); refine TL.runG rfl rfl (pure_gtr rfl rfl) rfl ?_; refine TL.run1 (pure_pick_false rfl rfl) rfl ?_; refine TL.run1 (pure_move rfl) rfl ?_; refine TL.splitP 21 rfl (fun hg21 => ?_) (fun hg21 => ?_)
        · try dsimp only at hg21
          (iterate 4 refine TL.passG rfl rfl rfl rfl ?_); refine TL.run1 (pure_pick_true rfl rfl) rfl ?_; refine TL.cutEnd (by repeat (first | exact Same.refl _ _ | refine Same.put rfl ?_)) rfl ?_
          first | (simp only [decide_eq_true_eq, iff_false]; omega) | (simp; omega) | (simp_all; done) | (simp_all; omega)
        · try dsimp only at hg21
          (iterate 2 refine TL.runG rfl rfl (pure_move rfl) rfl ?_); refine TL.runG rfl rfl (pure_len Ty.sl35 rfl) rfl ?_; refine TL.runG rfl rfl (pure_gtr rfl rfl) rfl ?_; refine TL.run1 (pure_pick_false rfl rfl) rfl ?_; refine TL.cutEnd (by repeat (first | exact Same.refl _ _ | refine Same.put rfl ?_)) rfl ?_
          first | (simp only [decide_eq_true_eq, iff_false]; omega) | (simp; omega) | (simp_all; done) | (simp_all; omega)
    refine TC.condD rfl (fun hc26 => ?_) (fun hc26 => ?_)
    · try dsimp only at hc26
      all_goals exact hc26.elim
    · try dsimp only at hc26
      refine TC.skip' ?_; refine TC.seq ?_; refine TC.region ?_; (iterate 3 refine TL.run1 (pure_move rfl) rfl ?_); refine TL.run1 (pure_slice (l := a) (h := a + d) Ty.sl35 rfl rfl rfl (by omega) (by omega)) rfl ?_
      rw [hsl]
      refine TL.run1 (pure_call (RMake_spec (((pts s).drop a).take d) hpt (by rw [List.length_take]; omega)) (.cons rfl .nil) Tryd.call50) rfl ?_; (iterate 2 refine TL.run1 (pure_assign rfl) rfl ?_); refine TL.nil' ?_; refine TC.ret ?_
      exact ret2 (.inl rfl) rfl rfl (by rw [hrs])
set_option maxRecDepth 100000 in
theorem sel0_spec (k a b : Int) : Fun Tryd.prog 47 [.agg [.v (.int .i64 k), .v (.int .i64 a), .v (.int .i64 b)]] (.v (.bool (decide (selT false k)))) := by
  refine Fun.enter (n := 3) (rs := [.tmp 2]) Tryd.func47 rfl Tryd.ntmps47 Tryd.results47 rfl (fun w F => ?_); refine TC.seq ?_; refine TC.region ?_; refine TL.box rfl (.agg _) rfl (fun g1 => ?_); refine TL.run1 (pure_assign rfl) rfl ?_; refine TL.nil' ?_; refine TC.seq ?_; refine TC.region ?_; refine TL.run1 (pure_assign rfl) rfl ?_; refine TL.nil' ?_; refine TC.ret ?_
  exact ret_bool rfl (decide_eq_true (.inl rfl)).symm
set_option maxRecDepth 100000 in
theorem sel1_spec (k a b : Int) : Fun Tryd.prog 48 [.agg [.v (.int .i64 k), .v (.int .i64 a), .v (.int .i64 b)]] (.v (.bool (decide (selT true k)))) := by
  refine Fun.enter (n := 11) (rs := [.tmp 2]) Tryd.func48 rfl Tryd.ntmps48 Tryd.results48 rfl (fun w F => ?_); refine TC.seq ?_; refine TC.region ?_; refine TL.box rfl (.agg _) rfl (fun g1 => ?_); refine TL.run1 (pure_assign rfl) rfl ?_; refine TL.nil' ?_; refine TC.regionCut [3, 4, 5, 6, 7, 8, 9, 10, 2] 2 (k = 1 ∨ k = 2) ?_ ?_
  · skip
    refine TL.run1 (pure_fieldAddr_own Ty.f32_0 rfl) rfl ?_; refine TL.run1 (pure_load1_own Ty.one3 rfl (by repeat (first | exact List.Mem.head _ | apply List.Mem.tail)) (by repeat (first | exact DropR.zero _ | apply DropR.succ))) rfl ?_; refine TL.run1 (pure_eql rfl rfl) rfl ?_; refine TL.run1 (pure_move rfl) rfl ?_; refine TL.splitP 6 rfl (fun hg6 => ?_) (fun hg6 => ?_)
    · try dsimp only at hg6
      (iterate 3 refine TL.passG rfl rfl rfl rfl ?_); refine TL.run1 (pure_pick_true rfl rfl) rfl ?_; refine TL.run1 (pure_assign rfl) rfl ?_; refine TL.cutEnd (by repeat (first | exact Same.refl _ _ | refine Same.put rfl ?_)) rfl ?_
      first | (simp only [decide_eq_true_eq, Bool.false_eq_true, false_iff, true_iff, iff_true, iff_false, Bool.not_eq_true]; omega) | (simp_all; done) | (simp_all; omega) | grind
    · try dsimp only at hg6
      refine TL.runG rfl rfl (pure_fieldAddr_own Ty.f32_0 rfl) rfl ?_; refine TL.runG rfl rfl (pure_load1_own Ty.one3 rfl (by repeat (first | exact List.Mem.head _ | apply List.Mem.tail)) (by repeat (first | exact DropR.zero _ | apply DropR.succ))) rfl ?_; refine TL.runG rfl rfl (pure_eql rfl rfl) rfl ?_; refine TL.run1 (pure_pick_false rfl rfl) rfl ?_; refine TL.run1 (pure_assign rfl) rfl ?_; refine TL.cutEnd (by repeat (first | exact Same.refl _ _ | refine Same.put rfl ?_)) rfl ?_
      first | (simp only [decide_eq_true_eq, Bool.false_eq_true, false_iff, true_iff, iff_true, iff_false, Bool.not_eq_true]; omega) | (simp_all; done) | (simp_all; omega) | grind
  refine TC.ret ?_
  exact ret_bool rfl (by rw [decide_eq_decide]; unfold selT; simp)
set_option maxRecDepth 100000 in
theorem texts0_spec (s : ByteArray) (hs : s.size ≤ 1000000) : Fun Tryd.prog 46 [.v (.string s), .fn 47 []] (.tup [.sl 1 (txV s false), .v (.int .i64 (errU s))]) := by
  refine Fun.enterF (n := 43) (rs := [.tmp 4, .tmp 5]) Tryd.func46 rfl Tryd.ntmps46 Tryd.results46 rfl (fun w F => ?_); refine TC.seq ?_; refine TC.region ?_; (iterate 2 refine TL.run1 (pure_assign rfl) rfl ?_); refine TL.nil' ?_; refine TC.seq ?_; refine TC.nilrow 9 1 ?_; refine TC.region ?_; refine TL.run1 (pure_move rfl) rfl ?_; refine TL.run1 (pure_call (Tokens_spec s (by omega)) (.cons rfl .nil) Tryd.call13) rfl ?_; refine TL.run1 (pure_move rfl) rfl ?_; (iterate 2 refine TL.run1 (pure_extract rfl rfl) rfl ?_); (iterate 2 refine TL.run1 (pure_assign rfl) rfl ?_); refine TL.nil' ?_; (iterate 2 refine TC.seq ?_); refine TC.region ?_; refine TL.run1 (pure_move rfl) rfl ?_; refine TL.run1 (pure_neq rfl rfl) rfl ?_; refine TL.nil' ?_; refine TC.condD rfl (fun hc18 => ?_) (fun hc18 => ?_)
  · try dsimp only at hc18
    have hok : okS s = false := errU_bad0 hc18
    have hE := errU_not hok
    have hx : txV s false = [] := by (unfold txV; rw [hok]; rfl)
    rw [hx, hE]
    refine TC.seq ?_; refine TC.region ?_; refine TL.run1 (pure_move rfl) rfl ?_; (iterate 2 refine TL.run1 (pure_assign rfl) rfl ?_); refine TL.nil' ?_; refine TC.ret ?_; refine then_ret ?_
    exact retF2 (.inl rfl) rfl rfl (.tupL (.cons (.rowS (v := .slice none 0 0) (e := 9) (xs := []) (by repeat (first | exact List.Mem.head _ | apply List.Mem.tail)) (by decide) (by simp)) (.cons (.same _) .nil)))
  · try dsimp only at hc18
    have hok : okS s = true := errU_ok0 hc18
    have hE : errU s = 0 := by unfold errU; rw [if_pos hok]
    have htv : tokV s = encTk (scL s) (bnds (cls s)) := by unfold tokV; rw [if_pos hok]
    rw [htv]
    have htl := encTk_len (scL s) (bnds (cls s))
    have hntl : nT (scL s) ≤ 1000001 := by (have h1 := nT_le (scL s); rw [scL_len] at h1; have h2 := cAll_len_le (cls s); rw [cls_len] at h2; have := nR_le s; omega)
    rw [hE]
    have hnl := nR_le s
    have hpl := pts_len s
    have hrk := encR32_len (pts s)
    refine TC.skip' ?_; refine TC.seq ?_; refine TC.region ?_; refine TL.run1 (pure_move rfl) rfl ?_; refine TL.run1 (pure_conv_runes (ns := pts s) Tryd.underlying9 Ty.app107 Tryd.underlying21 (runes_all s) (by omega) rfl) rfl ?_; refine TL.run1 (pure_assign rfl) rfl ?_; refine TL.nil' ?_; refine TC.seq ?_; refine TC.region ?_; refine TL.run1 (pure_assign rfl) rfl ?_; refine TL.nil' ?_; (iterate 2 refine TC.seq ?_); refine TC.region ?_; refine TL.run1 (pure_move rfl) rfl ?_; refine TL.run1 (pure_len Ty.sl23 rfl) rfl ?_; refine TL.run1 (pure_move rfl) rfl ?_; refine TL.nil' ?_; refine TC.block ?_; refine TC.loopX (X := Nat × Value) (fun (i, v) => [(1, .fn 47 []), (8, .sl 1 (encR32 (pts s))), (9, .v v), (22, .sl 3 (encTk (scL s) (bnds (cls s)))), (23, .v (.int .i64 (encTk (scL s) (bnds (cls s))).length)), (24, .v (.int .i64 i))]) (fun (i, v) => [.row v 9 1 (txTo s false i)]) (fun (i, v) => (i ≤ nT (scL s))) (fun (i, v) => nT (scL s) - i) (0, .slice none 0 0) ⟨by skip; repeat (first | exact Agree.nil | refine Agree.cons rfl ?_), by skip; repeat (first | exact List.nil_sublist _ | exact List.Sublist.refl _ | apply List.Sublist.cons_cons | apply List.Sublist.cons)⟩ ?_ ?_
    · skip
      exact Nat.zero_le _
    rintro ⟨i, v⟩
    intro h1
    show TC _ _ _ (Env.of [(1, .fn 47 []), (8, .sl 1 (encR32 (pts s))), (9, .v v), (22, .sl 3 (encTk (scL s) (bnds (cls s)))), (23, .v (.int .i64 (encTk (scL s) (bnds (cls s))).length)), (24, .v (.int .i64 i))]) [.row v 9 1 (txTo s false i)]
    refine TC.seq ?_; refine TC.region ?_; refine TL.run1 (pure_lss rfl rfl) rfl ?_; refine TL.nil' ?_; refine TC.seq ?_; refine TC.condD rfl (fun hc25 => ?_) (fun hc25 => ?_)
    · try dsimp only at hc25
      refine TC.skip' ?_; refine TC.seq ?_; refine TC.block ?_; refine TC.seq ?_
      have hii : i < nT (scL s) := by omega
      have hrow := tkr (scL s) (bnds (cls s)) i hii
      refine TC.region ?_; refine TL.run1 (pure_indexAddr Ty.sl23 rfl rfl (by omega) hrow (List.cons_ne_nil _ _)) rfl ?_; refine TL.run1 (pure_load Ty.agg32 rfl (.succ (.succ (.succ (.zero _))))) rfl ?_; refine TL.alloc Ty.zero32 rfl (fun g11 => ?_); refine TL.store rfl rfl (.agg _) Tryd.sizeOf32 rfl (by repeat (first | exact UpdR.here _ | apply UpdR.there)) (by repeat (first | exact PutR.nil _ | apply PutR.here | apply PutR.skip)) ?_; refine TL.nil' ?_; refine TC.seq ?_; refine TC.region ?_; refine TL.run1 (pure_move rfl) rfl ?_; refine TL.run1 (pure_load_own Ty.agg32 rfl (by repeat (first | exact List.Mem.head _ | apply List.Mem.tail)) (by repeat (first | exact DropR.zero _ | apply DropR.succ)) (.succ (.succ (.succ (.zero _))))) rfl ?_; refine TL.run1 (pure_callv rfl (sel0_spec (kT (scL s) i) (fT (scL s) (bnds (cls s)) i) (fT (scL s) (bnds (cls s)) (i + 1))) (.cons rfl .nil) Tryd.call47) rfl ?_; refine TL.nil' ?_; refine TC.condD rfl (fun hc30 => ?_) (fun hc30 => ?_)
      · try dsimp only at hc30
        have hs30 : selT false (kT (scL s) i) := by simpa using hc30
        obtain ⟨a, d, ha, had, hle⟩ := tok_pos hok hii
        have hrs := runes_sub hok (a := a) d hle
        have hts : s.extract (rpos s a) (rpos s (a + d)) = tS s i := by (unfold tS; rw [ha, had, Int.toNat_natCast, Int.toNat_natCast])
        have hsl : ((encR32 (pts s)).take (a + d)).drop a = encR32 (((pts s).drop a).take d) := by (rw [List.drop_take, Nat.add_sub_cancel_left]; simp [encR32])
        have htxl := txTo_len s false i
        refine TC.region ?_; (iterate 2 refine TL.run1 (pure_move rfl) rfl ?_); refine TL.run1 (pure_fieldAddr_own Ty.f32_1 rfl) rfl ?_; refine TL.run1 (pure_load1_own Ty.one3 rfl (by repeat (first | exact List.Mem.head _ | apply List.Mem.tail)) (by repeat (first | exact DropR.zero _ | apply DropR.succ))) rfl ?_; refine TL.run1 (pure_fieldAddr_own Ty.f32_2 rfl) rfl ?_; refine TL.run1 (pure_load1_own Ty.one3 rfl (by repeat (first | exact List.Mem.head _ | apply List.Mem.tail)) (by repeat (first | exact DropR.zero _ | apply DropR.succ))) rfl ?_; refine TL.run1 (pure_slice (l := a) (h := a + d) Ty.sl107 rfl (by rw [← ha]; rfl) (by rw [← had]; rfl) (by omega) (by omega)) rfl ?_
        rw [hsl]
        refine TL.run1 (pure_conv_runes_str Tryd.underlying107 Tryd.underlying21 Tryd.underlying9 rfl) rfl ?_
        rw [hrs, hts]
        refine TL.run1 (pure_buildSlice (xs := [.tmp 38]) Ty.app52 (by decide) rfl rfl (.cons rfl (.one rfl) rfl .nil)) rfl ?_; refine TL.append Ty.app52 rfl rfl (by intro _; repeat (first | exact UpdR.here _ | apply UpdR.there)) (by simp only [List.length_append, List.length_cons, List.length_nil]; omega) (by simp only [List.length_append, List.length_cons, List.length_nil]; omega) rfl (fun v40 hv40 => ?_); refine TL.run1 (pure_assign rfl) rfl ?_; refine TL.nil ?_; refine block_normal ?_; refine then_normal ?_; refine TC.region ?_; refine TL.run1 (pure_add rfl rfl (mkI64 (by omega) (by omega))) rfl ?_; refine TL.run1 (pure_move rfl) rfl ?_; refine TL.nil ?_
        have hst : txTo s false (i + 1) = txTo s false i ++ [[.v (.string (tS s i))]] := by rw [txTo, if_pos hs30]
        refine loop_next (i + 1, v40) ⟨by ((try dsimp only); rw [show (((i + 1 : Nat)) : Int) = (i : Int) + 1 by omega]; repeat (first | exact Agree.nil | refine Agree.cons rfl ?_)), by (try dsimp only); rw [hst]; repeat (first | exact List.nil_sublist _ | exact List.Sublist.refl _ | apply List.Sublist.cons_cons | apply List.Sublist.cons)⟩ (show i + 1 ≤ _ by omega) (by (try dsimp only); omega)
      · try dsimp only at hc30
        have hs30 : ¬ selT false (kT (scL s) i) := by simpa using hc30
        refine TC.skip ?_; refine block_normal ?_; refine then_normal ?_; refine TC.region ?_; refine TL.run1 (pure_add rfl rfl (mkI64 (by omega) (by omega))) rfl ?_; refine TL.run1 (pure_move rfl) rfl ?_; refine TL.nil ?_
        have hst : txTo s false (i + 1) = txTo s false i := by rw [txTo, if_neg hs30, List.append_nil]
        refine loop_next (i + 1, v) ⟨by ((try dsimp only); rw [show (((i + 1 : Nat)) : Int) = (i : Int) + 1 by omega]; repeat (first | exact Agree.nil | refine Agree.cons rfl ?_)), by (try dsimp only); rw [hst]; repeat (first | exact List.nil_sublist _ | exact List.Sublist.refl _ | apply List.Sublist.cons_cons | apply List.Sublist.cons)⟩ (show i + 1 ≤ _ by omega) (by (try dsimp only); omega)
    · try dsimp only at hc25
      refine TC.exit ?_; refine then_exit ?_; refine loop_exit ?_; refine block_here ?_; refine then_normal ?_; refine TC.seq ?_; refine TC.region ?_; refine TL.run1 (pure_move rfl) rfl ?_; (iterate 2 refine TL.run1 (pure_assign rfl) rfl ?_); refine TL.nil' ?_; refine TC.ret ?_
      have hi : i = nT (scL s) := by omega
      subst hi
      have hx : txV s false = txTo s false (nT (scL s)) := by (unfold txV; rw [if_pos hok])
      rw [hx]
      exact retF2 (.inl rfl) rfl rfl (.tupL (.cons (.rowS (by repeat (first | exact List.Mem.head _ | apply List.Mem.tail)) (by decide) (txTo_each s false _)) (.cons (.same _) .nil)))
set_option maxRecDepth 100000 in
theorem Stexts0_spec (s : ByteArray) (hs : s.size ≤ 1000000) : Fun Tryd.prog 24 [.v (.string s)] (.tup [.sl 1 (txV s false), .v (.int .i64 (errU s))]) := by
  refine Fun.enter (n := 8) (rs := [.tmp 2, .tmp 3]) Tryd.func24 rfl Tryd.ntmps24 Tryd.results24 rfl (fun w F => ?_); refine TC.seq ?_; refine TC.region ?_; (iterate 2 refine TL.run1 (pure_assign rfl) rfl ?_); refine TL.nil' ?_; refine TC.seq ?_; refine TC.region ?_; refine TL.run1 (pure_move rfl) rfl ?_; refine TL.run1 (pure_call (texts0_spec s hs) (.cons rfl (.cons rfl .nil)) Tryd.call46) rfl ?_; (iterate 2 refine TL.run1 (pure_extract rfl rfl) rfl ?_); (iterate 2 refine TL.run1 (pure_assign rfl) rfl ?_); refine TL.nil' ?_; refine TC.ret ?_
  exact ret2 (.inl rfl) rfl rfl rfl
set_option maxRecDepth 100000 in
theorem texts1_spec (s : ByteArray) (hs : s.size ≤ 1000000) : Fun Tryd.prog 46 [.v (.string s), .fn 48 []] (.tup [.sl 1 (txV s true), .v (.int .i64 (errU s))]) := by
  refine Fun.enterF (n := 43) (rs := [.tmp 4, .tmp 5]) Tryd.func46 rfl Tryd.ntmps46 Tryd.results46 rfl (fun w F => ?_); refine TC.seq ?_; refine TC.region ?_; (iterate 2 refine TL.run1 (pure_assign rfl) rfl ?_); refine TL.nil' ?_; refine TC.seq ?_; refine TC.nilrow 9 1 ?_; refine TC.region ?_; refine TL.run1 (pure_move rfl) rfl ?_; refine TL.run1 (pure_call (Tokens_spec s (by omega)) (.cons rfl .nil) Tryd.call13) rfl ?_; refine TL.run1 (pure_move rfl) rfl ?_; (iterate 2 refine TL.run1 (pure_extract rfl rfl) rfl ?_); (iterate 2 refine TL.run1 (pure_assign rfl) rfl ?_); refine TL.nil' ?_; (iterate 2 refine TC.seq ?_); refine TC.region ?_; refine TL.run1 (pure_move rfl) rfl ?_; refine TL.run1 (pure_neq rfl rfl) rfl ?_; refine TL.nil' ?_; refine TC.condD rfl (fun hc18 => ?_) (fun hc18 => ?_)
  · try dsimp only at hc18
    have hok : okS s = false := errU_bad0 hc18
    have hE := errU_not hok
    have hx : txV s true = [] := by (unfold txV; rw [hok]; rfl)
    rw [hx, hE]
    refine TC.seq ?_; refine TC.region ?_; refine TL.run1 (pure_move rfl) rfl ?_; (iterate 2 refine TL.run1 (pure_assign rfl) rfl ?_); refine TL.nil' ?_; refine TC.ret ?_; refine then_ret ?_
    exact retF2 (.inl rfl) rfl rfl (.tupL (.cons (.rowS (v := .slice none 0 0) (e := 9) (xs := []) (by repeat (first | exact List.Mem.head _ | apply List.Mem.tail)) (by decide) (by simp)) (.cons (.same _) .nil)))
  · try dsimp only at hc18
    have hok : okS s = true := errU_ok0 hc18
    have hE : errU s = 0 := by unfold errU; rw [if_pos hok]
    have htv : tokV s = encTk (scL s) (bnds (cls s)) := by unfold tokV; rw [if_pos hok]
    rw [htv]
    have htl := encTk_len (scL s) (bnds (cls s))
    have hntl : nT (scL s) ≤ 1000001 := by (have h1 := nT_le (scL s); rw [scL_len] at h1; have h2 := cAll_len_le (cls s); rw [cls_len] at h2; have := nR_le s; omega)
    rw [hE]
    have hnl := nR_le s
    have hpl := pts_len s
    have hrk := encR32_len (pts s)
    refine TC.skip' ?_; refine TC.seq ?_; refine TC.region ?_; refine TL.run1 (pure_move rfl) rfl ?_; refine TL.run1 (pure_conv_runes (ns := pts s) Tryd.underlying9 Ty.app107 Tryd.underlying21 (runes_all s) (by omega) rfl) rfl ?_; refine TL.run1 (pure_assign rfl) rfl ?_; refine TL.nil' ?_; refine TC.seq ?_; refine TC.region ?_; refine TL.run1 (pure_assign rfl) rfl ?_; refine TL.nil' ?_; (iterate 2 refine TC.seq ?_); refine TC.region ?_; refine TL.run1 (pure_move rfl) rfl ?_; refine TL.run1 (pure_len Ty.sl23 rfl) rfl ?_; refine TL.run1 (pure_move rfl) rfl ?_; refine TL.nil' ?_; refine TC.block ?_; refine TC.loopX (X := Nat × Value) (fun (i, v) => [(1, .fn 48 []), (8, .sl 1 (encR32 (pts s))), (9, .v v), (22, .sl 3 (encTk (scL s) (bnds (cls s)))), (23, .v (.int .i64 (encTk (scL s) (bnds (cls s))).length)), (24, .v (.int .i64 i))]) (fun (i, v) => [.row v 9 1 (txTo s true i)]) (fun (i, v) => (i ≤ nT (scL s))) (fun (i, v) => nT (scL s) - i) (0, .slice none 0 0) ⟨by skip; repeat (first | exact Agree.nil | refine Agree.cons rfl ?_), by skip; repeat (first | exact List.nil_sublist _ | exact List.Sublist.refl _ | apply List.Sublist.cons_cons | apply List.Sublist.cons)⟩ ?_ ?_
    · skip
      exact Nat.zero_le _
    rintro ⟨i, v⟩
    intro h1
    show TC _ _ _ (Env.of [(1, .fn 48 []), (8, .sl 1 (encR32 (pts s))), (9, .v v), (22, .sl 3 (encTk (scL s) (bnds (cls s)))), (23, .v (.int .i64 (encTk (scL s) (bnds (cls s))).length)), (24, .v (.int .i64 i))]) [.row v 9 1 (txTo s true i)]
    refine TC.seq ?_; refine TC.region ?_; refine TL.run1 (pure_lss rfl rfl) rfl ?_; refine TL.nil' ?_; refine TC.seq ?_; refine TC.condD rfl (fun hc25 => ?_) (fun hc25 => ?_)
    · try dsimp only at hc25
      refine TC.skip' ?_; refine TC.seq ?_; refine TC.block ?_; refine TC.seq ?_
      have hii : i < nT (scL s) := by omega
      have hrow := tkr (scL s) (bnds (cls s)) i hii
      refine TC.region ?_; refine TL.run1 (pure_indexAddr Ty.sl23 rfl rfl (by omega) hrow (List.cons_ne_nil _ _)) rfl ?_; refine TL.run1 (pure_load Ty.agg32 rfl (.succ (.succ (.succ (.zero _))))) rfl ?_; refine TL.alloc Ty.zero32 rfl (fun g11 => ?_); refine TL.store rfl rfl (.agg _) Tryd.sizeOf32 rfl (by repeat (first | exact UpdR.here _ | apply UpdR.there)) (by repeat (first | exact PutR.nil _ | apply PutR.here | apply PutR.skip)) ?_; refine TL.nil' ?_; refine TC.seq ?_; refine TC.region ?_; refine TL.run1 (pure_move rfl) rfl ?_; refine TL.run1 (pure_load_own Ty.agg32 rfl (by repeat (first | exact List.Mem.head _ | apply List.Mem.tail)) (by repeat (first | exact DropR.zero _ | apply DropR.succ)) (.succ (.succ (.succ (.zero _))))) rfl ?_; refine TL.run1 (pure_callv rfl (sel1_spec (kT (scL s) i) (fT (scL s) (bnds (cls s)) i) (fT (scL s) (bnds (cls s)) (i + 1))) (.cons rfl .nil) Tryd.call48) rfl ?_; refine TL.nil' ?_; refine TC.condD rfl (fun hc30 => ?_) (fun hc30 => ?_)
      · try dsimp only at hc30
        have hs30 : selT true (kT (scL s) i) := by simpa using hc30
        obtain ⟨a, d, ha, had, hle⟩ := tok_pos hok hii
        have hrs := runes_sub hok (a := a) d hle
        have hts : s.extract (rpos s a) (rpos s (a + d)) = tS s i := by (unfold tS; rw [ha, had, Int.toNat_natCast, Int.toNat_natCast])
        have hsl : ((encR32 (pts s)).take (a + d)).drop a = encR32 (((pts s).drop a).take d) := by (rw [List.drop_take, Nat.add_sub_cancel_left]; simp [encR32])
        have htxl := txTo_len s true i
        refine TC.region ?_; (iterate 2 refine TL.run1 (pure_move rfl) rfl ?_); refine TL.run1 (pure_fieldAddr_own Ty.f32_1 rfl) rfl ?_; refine TL.run1 (pure_load1_own Ty.one3 rfl (by repeat (first | exact List.Mem.head _ | apply List.Mem.tail)) (by repeat (first | exact DropR.zero _ | apply DropR.succ))) rfl ?_; refine TL.run1 (pure_fieldAddr_own Ty.f32_2 rfl) rfl ?_; refine TL.run1 (pure_load1_own Ty.one3 rfl (by repeat (first | exact List.Mem.head _ | apply List.Mem.tail)) (by repeat (first | exact DropR.zero _ | apply DropR.succ))) rfl ?_; refine TL.run1 (pure_slice (l := a) (h := a + d) Ty.sl107 rfl (by rw [← ha]; rfl) (by rw [← had]; rfl) (by omega) (by omega)) rfl ?_
        rw [hsl]
        refine TL.run1 (pure_conv_runes_str Tryd.underlying107 Tryd.underlying21 Tryd.underlying9 rfl) rfl ?_
        rw [hrs, hts]
        refine TL.run1 (pure_buildSlice (xs := [.tmp 38]) Ty.app52 (by decide) rfl rfl (.cons rfl (.one rfl) rfl .nil)) rfl ?_; refine TL.append Ty.app52 rfl rfl (by intro _; repeat (first | exact UpdR.here _ | apply UpdR.there)) (by simp only [List.length_append, List.length_cons, List.length_nil]; omega) (by simp only [List.length_append, List.length_cons, List.length_nil]; omega) rfl (fun v40 hv40 => ?_); refine TL.run1 (pure_assign rfl) rfl ?_; refine TL.nil ?_; refine block_normal ?_; refine then_normal ?_; refine TC.region ?_; refine TL.run1 (pure_add rfl rfl (mkI64 (by omega) (by omega))) rfl ?_; refine TL.run1 (pure_move rfl) rfl ?_; refine TL.nil ?_
        have hst : txTo s true (i + 1) = txTo s true i ++ [[.v (.string (tS s i))]] := by rw [txTo, if_pos hs30]
        refine loop_next (i + 1, v40) ⟨by ((try dsimp only); rw [show (((i + 1 : Nat)) : Int) = (i : Int) + 1 by omega]; repeat (first | exact Agree.nil | refine Agree.cons rfl ?_)), by (try dsimp only); rw [hst]; repeat (first | exact List.nil_sublist _ | exact List.Sublist.refl _ | apply List.Sublist.cons_cons | apply List.Sublist.cons)⟩ (show i + 1 ≤ _ by omega) (by (try dsimp only); omega)
      · try dsimp only at hc30
        have hs30 : ¬ selT true (kT (scL s) i) := by simpa using hc30
        refine TC.skip ?_; refine block_normal ?_; refine then_normal ?_; refine TC.region ?_; refine TL.run1 (pure_add rfl rfl (mkI64 (by omega) (by omega))) rfl ?_; refine TL.run1 (pure_move rfl) rfl ?_; refine TL.nil ?_
        have hst : txTo s true (i + 1) = txTo s true i := by rw [txTo, if_neg hs30, List.append_nil]
        refine loop_next (i + 1, v) ⟨by ((try dsimp only); rw [show (((i + 1 : Nat)) : Int) = (i : Int) + 1 by omega]; repeat (first | exact Agree.nil | refine Agree.cons rfl ?_)), by (try dsimp only); rw [hst]; repeat (first | exact List.nil_sublist _ | exact List.Sublist.refl _ | apply List.Sublist.cons_cons | apply List.Sublist.cons)⟩ (show i + 1 ≤ _ by omega) (by (try dsimp only); omega)
    · try dsimp only at hc25
      refine TC.exit ?_; refine then_exit ?_; refine loop_exit ?_; refine block_here ?_; refine then_normal ?_; refine TC.seq ?_; refine TC.region ?_; refine TL.run1 (pure_move rfl) rfl ?_; (iterate 2 refine TL.run1 (pure_assign rfl) rfl ?_); refine TL.nil' ?_; refine TC.ret ?_
      have hi : i = nT (scL s) := by omega
      subst hi
      have hx : txV s true = txTo s true (nT (scL s)) := by (unfold txV; rw [if_pos hok])
      rw [hx]
      exact retF2 (.inl rfl) rfl rfl (.tupL (.cons (.rowS (by repeat (first | exact List.Mem.head _ | apply List.Mem.tail)) (by decide) (txTo_each s true _)) (.cons (.same _) .nil)))
set_option maxRecDepth 100000 in
theorem Stexts1_spec (s : ByteArray) (hs : s.size ≤ 1000000) : Fun Tryd.prog 25 [.v (.string s)] (.tup [.sl 1 (txV s true), .v (.int .i64 (errU s))]) := by
  refine Fun.enter (n := 8) (rs := [.tmp 2, .tmp 3]) Tryd.func25 rfl Tryd.ntmps25 Tryd.results25 rfl (fun w F => ?_); refine TC.seq ?_; refine TC.region ?_; (iterate 2 refine TL.run1 (pure_assign rfl) rfl ?_); refine TL.nil' ?_; refine TC.seq ?_; refine TC.region ?_; refine TL.run1 (pure_move rfl) rfl ?_; refine TL.run1 (pure_call (texts1_spec s hs) (.cons rfl (.cons rfl .nil)) Tryd.call46) rfl ?_; (iterate 2 refine TL.run1 (pure_extract rfl rfl) rfl ?_); (iterate 2 refine TL.run1 (pure_assign rfl) rfl ?_); refine TL.nil' ?_; refine TC.ret ?_
  exact ret2 (.inl rfl) rfl rfl rfl


theorem RSliceT_spec (c : ByteArray) (i : Nat) (hok : okS c = true) (hi : i < (nT (scL c))) (hs : c.size ≤ 1000000) : Fun Tryd.prog 26 [.v (.string c), .v (.int .i64 (fT (scL c) (bnds (cls c)) i)), .v (.int .i64 (fT (scL c) (bnds (cls c)) (i + 1)))] (.tup [.v (.string (tS c i)), .v (.int .i64 0)]) := by
  obtain ⟨a, d, ha, had, hle⟩ := tok_pos hok hi
  have h := RSlice_spec c a d hok hle hs
  have hts : tS c i = c.extract (rpos c a) (rpos c (a + d)) := by unfold tS; rw [ha, had, Int.toNat_natCast, Int.toNat_natCast]
  rw [ha, had, hts]
  exact h
theorem accS_size (s : ByteArray) (i : Nat) : (accS s i).size ≤ s.size := by unfold accS; rw [ByteArray.size_extract]; omega
theorem tS_size (s : ByteArray) (i : Nat) : (tS s i).size ≤ s.size := by unfold tS; rw [ByteArray.size_extract]; omega
set_option maxHeartbeats 1000000 in
set_option maxRecDepth 100000 in
theorem SegmentTexts_spec (s : ByteArray) : Fun Tryd.prog 9 [.v (.string s)] (.v (.bool true)) := by
  refine Fun.enter (n := 129) (rs := [.tmp 2]) Tryd.func9 rfl Tryd.ntmps9 Tryd.results9 rfl (fun w F => ?_); refine TC.seq ?_; refine TC.region ?_; refine TL.run1 (pure_assign rfl) rfl ?_; refine TL.nil' ?_; refine TC.seq ?_; refine TC.region ?_; refine TL.run1 (pure_move rfl) rfl ?_; refine TL.run1 (pure_call (short_spec s) (.cons rfl .nil) Tryd.call12) rfl ?_; refine TL.run1 (pure_assign rfl) rfl ?_; refine TL.nil' ?_; refine TC.seq ?_
  obtain ⟨c, hcd⟩ : ∃ c, shortS s = c := ⟨_, rfl⟩
  rw [hcd]
  have hcs : c.size ≤ 240 := hcd ▸ shortS_size s
  refine TC.region ?_; refine TL.run1 (pure_move rfl) rfl ?_; refine TL.run1 (pure_call (Stexts0_spec c (by omega)) (.cons rfl .nil) Tryd.call24) rfl ?_; refine TL.run1 (pure_move rfl) rfl ?_; (iterate 2 refine TL.run1 (pure_extract rfl rfl) rfl ?_); (iterate 2 refine TL.run1 (pure_assign rfl) rfl ?_); refine TL.nil' ?_; refine TC.seq ?_; refine TC.region ?_; refine TL.run1 (pure_move rfl) rfl ?_; refine TL.run1 (pure_call (Stexts1_spec c (by omega)) (.cons rfl .nil) Tryd.call25) rfl ?_; refine TL.run1 (pure_move rfl) rfl ?_; (iterate 2 refine TL.run1 (pure_extract rfl rfl) rfl ?_); (iterate 2 refine TL.run1 (pure_assign rfl) rfl ?_); refine TL.nil' ?_; refine TC.seq ?_; refine TC.region ?_; refine TL.run1 (pure_move rfl) rfl ?_; refine TL.run1 (pure_call (R3Tokens_spec c (by omega)) (.cons rfl .nil) Tryd.call14) rfl ?_; refine TL.run1 (pure_move rfl) rfl ?_; (iterate 2 refine TL.run1 (pure_extract rfl rfl) rfl ?_); (iterate 2 refine TL.run1 (pure_assign rfl) rfl ?_); refine TL.nil' ?_; refine TC.seq ?_; refine TC.regionCut [31, 32, 33, 34, 35, 36] 36 (okS c = false) ?_ ?_
  · skip
    refine TL.run1 (pure_call (known_spec) .nil Tryd.call15) rfl ?_; refine TL.run1 (pure_not rfl) rfl ?_; refine TL.run1 (pure_move rfl) rfl ?_; refine TL.split 33 rfl (fun hg33 => ?_) (fun hg33 => ?_)
    · try dsimp only at hg33
      (iterate 2 refine TL.passG rfl rfl rfl rfl ?_); refine TL.run1 (pure_pick_true rfl rfl) rfl ?_; refine TL.cutEnd (by repeat (first | exact Same.refl _ _ | refine Same.put rfl ?_)) rfl ?_
      first | (simp_all; done) | grind
    · try dsimp only at hg33
      refine TL.runG rfl rfl (pure_move rfl) rfl ?_; refine TL.runG rfl rfl (pure_not rfl) rfl ?_; refine TL.run1 (pure_pick_false rfl rfl) rfl ?_; refine TL.cutEnd (by repeat (first | exact Same.refl _ _ | refine Same.put rfl ?_)) rfl ?_
      first | (simp_all; done) | grind
  refine TC.condD rfl (fun hc36 => ?_) (fun hc36 => ?_)
  · try dsimp only at hc36
    have hok : okS c = false := hc36
    have hE := errU_not hok
    have hx0 : txV c false = [] := by (unfold txV; rw [hok]; rfl)
    have hx1 : txV c true = [] := by (unfold txV; rw [hok]; rfl)
    rw [hE, hx0, hx1]
    have hnil : ([] : List (List D)).length = 0 := rfl
    refine TC.regionCut [37, 38, 39, 40, 41, 42, 43, 44, 45, 46, 47, 48, 49, 50, 51, 52, 53, 2] 2 (True) ?_ ?_
    · skip
      refine TL.run1 (pure_call (known_spec) .nil Tryd.call15) rfl ?_; refine TL.run1 (pure_move rfl) rfl ?_; refine TL.split 38 rfl (fun hg38 => ?_) (fun hg38 => ?_)
      · try dsimp only at hg38
        refine TL.runG rfl rfl (pure_move rfl) rfl ?_; refine TL.runG rfl rfl (pure_eql rfl rfl) rfl ?_; refine TL.run1 (pure_pick_true rfl rfl) rfl ?_; refine TL.run1 (pure_move rfl) rfl ?_; refine TL.splitP 42 rfl (fun hg42 => ?_) (fun hg42 => ?_)
        · try dsimp only at hg42
          refine TL.runG rfl rfl (pure_move rfl) rfl ?_; refine TL.runG rfl rfl (pure_eql rfl rfl) rfl ?_; refine TL.run1 (pure_pick_true rfl rfl) rfl ?_; refine TL.run1 (pure_move rfl) rfl ?_; refine TL.splitP 46 rfl (fun hg46 => ?_) (fun hg46 => ?_)
          · try dsimp only at hg46
            refine TL.runG rfl rfl (pure_move rfl) rfl ?_; refine TL.runG rfl rfl (pure_len Ty.sl52 rfl) rfl ?_; refine TL.runG rfl rfl (pure_move rfl) rfl ?_; refine TL.runG rfl rfl (pure_len Ty.sl52 rfl) rfl ?_; refine TL.runG rfl rfl (pure_add rfl rfl (mkI64 (by omega) (by omega))) rfl ?_; refine TL.runG rfl rfl (pure_eql rfl rfl) rfl ?_; refine TL.run1 (pure_pick_true rfl rfl) rfl ?_; refine TL.run1 (pure_assign rfl) rfl ?_; refine TL.cutEnd (by repeat (first | exact Same.refl _ _ | refine Same.put rfl ?_)) rfl ?_
            first | (simp; done) | (simp_all; done)
          · try dsimp only at hg46
            (iterate 6 refine TL.passG rfl rfl rfl rfl ?_); refine TL.run1 (pure_pick_false rfl rfl) rfl ?_; refine TL.run1 (pure_assign rfl) rfl ?_; refine TL.cutEnd (by repeat (first | exact Same.refl _ _ | refine Same.put rfl ?_)) rfl ?_
            first | (simp; done) | (simp_all; done)
        · try dsimp only at hg42
          (iterate 2 refine TL.passG rfl rfl rfl rfl ?_); refine TL.run1 (pure_pick_false rfl rfl) rfl ?_; refine TL.run1 (pure_move rfl) rfl ?_; (iterate 6 refine TL.passG rfl rfl rfl rfl ?_); refine TL.run1 (pure_pick_false rfl rfl) rfl ?_; refine TL.run1 (pure_assign rfl) rfl ?_; refine TL.cutEnd (by repeat (first | exact Same.refl _ _ | refine Same.put rfl ?_)) rfl ?_
          first | (simp; done) | (simp_all; done)
      · try dsimp only at hg38
        (iterate 2 refine TL.passG rfl rfl rfl rfl ?_); refine TL.run1 (pure_pick_false rfl rfl) rfl ?_; refine TL.run1 (pure_move rfl) rfl ?_; (iterate 2 refine TL.passG rfl rfl rfl rfl ?_); refine TL.run1 (pure_pick_false rfl rfl) rfl ?_; refine TL.run1 (pure_move rfl) rfl ?_; (iterate 6 refine TL.passG rfl rfl rfl rfl ?_); refine TL.run1 (pure_pick_false rfl rfl) rfl ?_; refine TL.run1 (pure_assign rfl) rfl ?_; refine TL.cutEnd (by repeat (first | exact Same.refl _ _ | refine Same.put rfl ?_)) rfl ?_
        first | (simp; done) | (simp_all; done)
    refine TC.ret ?_; refine then_ret ?_
    exact ret_bool rfl (by simp)
  · try dsimp only at hc36
    have hok : okS c = true := by (cases h : okS c with | true => rfl | false => exact absurd h hc36)
    have htv : tokV c = encTk (scL c) (bnds (cls c)) := by unfold tokV; rw [if_pos hok]
    rw [htv]
    have htl := encTk_len (scL c) (bnds (cls c))
    have hntl : (nT (scL c)) ≤ 1000 := by (have h1 := nT_le (scL c); rw [scL_len] at h1; have h2 := cAll_len_le (cls c); rw [cls_len] at h2; have := nR_le c; omega)
    have hE : errU c = 0 := by unfold errU; rw [if_pos hok]
    have hx0 : txV c false = txTo c false (nT (scL c)) := by (unfold txV; rw [if_pos hok])
    have hx1 : txV c true = txTo c true (nT (scL c)) := by (unfold txV; rw [if_pos hok])
    rw [hE, hx0, hx1]
    have hl0 := txF_len c (nT (scL c))
    have hl1 := txTo_len c true (nT (scL c))
    refine TC.skip' ?_; refine TC.seq ?_; refine TC.regionCut [54, 55, 56, 57, 58, 59, 60, 61, 62, 63, 64, 65, 66] 66 (False) ?_ ?_
    · skip
      refine TL.run1 (pure_move rfl) rfl ?_; refine TL.run1 (pure_neq rfl rfl) rfl ?_; refine TL.run1 (pure_move rfl) rfl ?_; refine TL.splitP 56 rfl (fun hg56 => ?_) (fun hg56 => ?_)
      · try dsimp only at hg56
        (iterate 2 refine TL.passG rfl rfl rfl rfl ?_); refine TL.run1 (pure_pick_true rfl rfl) rfl ?_; refine TL.run1 (pure_move rfl) rfl ?_; (iterate 5 refine TL.passG rfl rfl rfl rfl ?_); refine TL.run1 (pure_pick_true rfl rfl) rfl ?_; refine TL.cutEnd (by repeat (first | exact Same.refl _ _ | refine Same.put rfl ?_)) rfl ?_
        first | (simp; done) | (simp [hl0, htl]; done) | (simp_all; done)
      · try dsimp only at hg56
        refine TL.runG rfl rfl (pure_move rfl) rfl ?_; refine TL.runG rfl rfl (pure_neq rfl rfl) rfl ?_; refine TL.run1 (pure_pick_false rfl rfl) rfl ?_; refine TL.run1 (pure_move rfl) rfl ?_; refine TL.splitP 60 rfl (fun hg60 => ?_) (fun hg60 => ?_)
        · try dsimp only at hg60
          (iterate 5 refine TL.passG rfl rfl rfl rfl ?_); refine TL.run1 (pure_pick_true rfl rfl) rfl ?_; refine TL.cutEnd (by repeat (first | exact Same.refl _ _ | refine Same.put rfl ?_)) rfl ?_
          first | (simp; done) | (simp [hl0, htl]; done) | (simp_all; done)
        · try dsimp only at hg60
          refine TL.runG rfl rfl (pure_move rfl) rfl ?_; refine TL.runG rfl rfl (pure_len Ty.sl52 rfl) rfl ?_; refine TL.runG rfl rfl (pure_move rfl) rfl ?_; refine TL.runG rfl rfl (pure_len Ty.sl27 rfl) rfl ?_; refine TL.runG rfl rfl (pure_neq rfl rfl) rfl ?_; refine TL.run1 (pure_pick_false rfl rfl) rfl ?_; refine TL.cutEnd (by repeat (first | exact Same.refl _ _ | refine Same.put rfl ?_)) rfl ?_
          first | (simp; done) | (simp [hl0, htl]; done) | (simp_all; done)
    refine TC.condD rfl (fun hc66 => ?_) (fun hc66 => ?_)
    · try dsimp only at hc66
      all_goals exact hc66.elim
    · try dsimp only at hc66
      refine TC.skip' ?_; refine TC.seq ?_; refine TC.region ?_; (iterate 2 refine TL.run1 (pure_assign rfl) rfl ?_); refine TL.nil' ?_; (iterate 2 refine TC.seq ?_); refine TC.region ?_; refine TL.run1 (pure_assign rfl) rfl ?_; refine TL.nil' ?_; refine TC.block ?_; refine TC.loopX (X := Nat) (fun i => [(0, .v (.string c)), (3, .sl 1 (txTo c false (nT (scL c)))), (5, .sl 1 (txTo c true (nT (scL c)))), (7, .sl 3 (encTk (scL c) (bnds (cls c)))), (9, .v (.string (accS c i))), (10, .v (.int .i64 ((txTo c true i).length : Nat))), (11, .v (.int .i64 i))]) (fun i => []) (fun i => (i ≤ (nT (scL c)))) (fun i => (nT (scL c)) - i) (0) ⟨by (try dsimp only); rw [accS_zero hok]; repeat (first | exact Agree.nil | refine Agree.cons rfl ?_), by skip; repeat (first | exact List.nil_sublist _ | exact List.Sublist.refl _ | apply List.Sublist.cons_cons | apply List.Sublist.cons)⟩ ?_ ?_
      · skip
        exact Nat.zero_le _
      intro i
      intro h1
      show TC _ _ _ (Env.of [(0, .v (.string c)), (3, .sl 1 (txTo c false (nT (scL c)))), (5, .sl 1 (txTo c true (nT (scL c)))), (7, .sl 3 (encTk (scL c) (bnds (cls c)))), (9, .v (.string (accS c i))), (10, .v (.int .i64 ((txTo c true i).length : Nat))), (11, .v (.int .i64 i))]) []
      (iterate 2 refine TC.seq ?_); refine TC.region ?_; (iterate 2 refine TL.run1 (pure_move rfl) rfl ?_); refine TL.run1 (pure_len Ty.sl27 rfl) rfl ?_; refine TL.run1 (pure_lss rfl rfl) rfl ?_; refine TL.nil' ?_; refine TC.condD rfl (fun hc70 => ?_) (fun hc70 => ?_)
      · try dsimp only at hc70
        refine TC.skip' ?_; refine TC.seq ?_; refine TC.block ?_; refine TC.seq ?_
        have hii : i < (nT (scL c)) := by omega
        have hrow := tkr (scL c) (bnds (cls c)) i hii
        obtain ⟨_, hr0⟩ := txTo_at c false hii (.inl rfl)
        rw [txF_len] at hr0
        have hr3 : (txTo c false (nT (scL c)))[((i : Nat) : Int).toNat]? = some [.v (.string (tS c i))] := hr0
        have hz1 := accS_size c i
        have hz2 := tS_size c i
        have hkr := kT_range (scL c) i
        refine TC.draw Ty.follows (by kernel_rfl) ?_; (iterate 3 refine TD.run1 (pure_move rfl) rfl ?_); refine TD.run1 (pure_indexAddr Ty.sl27 rfl rfl (by omega) hrow (List.cons_ne_nil _ _)) rfl ?_; refine TD.run1 (pure_fieldAddr Ty.f33_1 rfl (.succ (.zero _)) (List.cons_ne_nil _ _)) rfl ?_; refine TD.run1 (pure_load1 Ty.one3 rfl) rfl ?_; (iterate 2 refine TD.run1 (pure_move rfl) rfl ?_); refine TD.run1 (pure_indexAddr Ty.sl27 rfl rfl (by omega) hrow (List.cons_ne_nil _ _)) rfl ?_; refine TD.run1 (pure_fieldAddr Ty.f33_2 rfl (.succ (.succ (.zero _))) (List.cons_ne_nil _ _)) rfl ?_; refine TD.run1 (pure_load1 Ty.one3 rfl) rfl ?_; refine TD.run1 (pure_call (RSliceT_spec c i hok hii (by omega)) (.cons rfl (.cons rfl (.cons rfl .nil))) Tryd.call26) rfl ?_; refine TD.run1 (pure_move rfl) rfl ?_; (iterate 2 refine TD.run1 (pure_extract rfl rfl) rfl ?_); (iterate 2 refine TD.run1 (pure_assign rfl) rfl ?_); refine TD.nil' ?_; refine TC.seq ?_; refine TC.region ?_; (iterate 3 refine TL.run1 (pure_move rfl) rfl ?_); refine TL.run1 (pure_indexAddr Ty.sl52 rfl rfl (by omega) hr3 (List.cons_ne_nil _ _)) rfl ?_; refine TL.run1 (pure_load1 Ty.one9 rfl) rfl ?_; refine TL.run1 (pure_add_string (a := accS c i) (b := tS c i) rfl rfl (by omega)) rfl ?_; refine TL.run1 (pure_assign rfl) rfl ?_; refine TL.nil' ?_; (iterate 2 refine TC.seq ?_); refine TC.region ?_; (iterate 2 refine TL.run1 (pure_move rfl) rfl ?_); refine TL.run1 (pure_indexAddr Ty.sl52 rfl rfl (by omega) hr3 (List.cons_ne_nil _ _)) rfl ?_; refine TL.run1 (pure_load1 Ty.one9 rfl) rfl ?_; refine TL.run1 (pure_move rfl) rfl ?_; refine TL.run1 (pure_neq_string rfl rfl) rfl ?_; refine TL.nil' ?_; refine TC.condD rfl (fun hc99 => ?_) (fun hc99 => ?_)
        · try dsimp only at hc99
          exact absurd rfl hc99
        · try dsimp only at hc99
          refine TC.skip' ?_; refine TC.seq ?_; refine TC.region ?_; (iterate 2 refine TL.run1 (pure_move rfl) rfl ?_); refine TL.run1 (pure_indexAddr Ty.sl27 rfl rfl (by omega) hrow (List.cons_ne_nil _ _)) rfl ?_; refine TL.run1 (pure_fieldAddr Ty.f33_0 rfl (.zero _) (List.cons_ne_nil _ _)) rfl ?_; refine TL.run1 (pure_load1 Ty.one3 rfl) rfl ?_; refine TL.run1 (pure_leq rfl rfl) rfl ?_; refine TL.nil' ?_; refine TC.condD rfl (fun hc105 => ?_) (fun hc105 => ?_)
          · try dsimp only at hc105
            have hsel : selT true (kT (scL c) i) := .inr (by omega)
            obtain ⟨hw0, hw1⟩ := txTo_at c true hii hsel
            have hrw : (txTo c true (nT (scL c)))[((((txTo c true i).length : Nat)) : Int).toNat]? = some [.v (.string (tS c i))] := hw1
            refine TC.seq ?_; refine TC.regionCut [106, 107, 108, 109, 110, 111, 112, 113, 114, 115, 116, 117] 117 (False) ?_ ?_
            · skip
              (iterate 2 refine TL.run1 (pure_move rfl) rfl ?_); refine TL.run1 (pure_len Ty.sl52 rfl) rfl ?_; refine TL.run1 (pure_geq rfl rfl) rfl ?_; refine TL.run1 (pure_move rfl) rfl ?_; refine TL.splitP 110 rfl (fun hg110 => ?_) (fun hg110 => ?_)
              · try dsimp only at hg110
                (iterate 6 refine TL.passG rfl rfl rfl rfl ?_); refine TL.run1 (pure_pick_true rfl rfl) rfl ?_; refine TL.cutEnd (by repeat (first | exact Same.refl _ _ | refine Same.put rfl ?_)) rfl ?_
                first | (simp only [decide_eq_true_eq, iff_false]; omega) | (simp; done) | (simp_all; done) | (simp_all; omega)
              · try dsimp only at hg110
                (iterate 2 refine TL.runG rfl rfl (pure_move rfl) rfl ?_); refine TL.runG rfl rfl (pure_indexAddr Ty.sl52 rfl rfl (by omega) hrw (List.cons_ne_nil _ _)) rfl ?_; refine TL.runG rfl rfl (pure_load1 Ty.one9 rfl) rfl ?_; refine TL.runG rfl rfl (pure_move rfl) rfl ?_; refine TL.runG rfl rfl (pure_neq_string rfl rfl) rfl ?_; refine TL.run1 (pure_pick_false rfl rfl) rfl ?_; refine TL.cutEnd (by repeat (first | exact Same.refl _ _ | refine Same.put rfl ?_)) rfl ?_
                first | (simp only [decide_eq_true_eq, iff_false]; omega) | (simp; done) | (simp_all; done) | (simp_all; omega)
            refine TC.condD rfl (fun hc117 => ?_) (fun hc117 => ?_)
            · try dsimp only at hc117
              all_goals exact hc117.elim
            · try dsimp only at hc117
              refine TC.skip' ?_; refine TC.region ?_; refine TL.run1 (pure_move rfl) rfl ?_; refine TL.run1 (pure_add rfl rfl (mkI64 (by omega) (by omega))) rfl ?_; refine TL.run1 (pure_assign rfl) rfl ?_; refine TL.nil ?_; refine block_normal ?_; refine then_normal ?_; refine TC.region ?_; refine TL.run1 (pure_move rfl) rfl ?_; refine TL.run1 (pure_add rfl rfl (mkI64 (by omega) (by omega))) rfl ?_; refine TL.run1 (pure_assign rfl) rfl ?_; refine TL.nil ?_
              have hst : (((txTo c true (i + 1)).length : Nat) : Int) = (((txTo c true i).length : Nat) : Int) + 1 := by (rw [txTo, if_pos hsel, List.length_append, List.length_singleton]; omega)
              refine loop_next (i + 1) ⟨by ((try dsimp only); rw [hst, ← accS_succ hok hii, show (((i + 1 : Nat)) : Int) = (i : Int) + 1 by omega]; repeat (first | exact Agree.nil | refine Agree.cons rfl ?_)), by repeat (first | exact List.nil_sublist _ | exact List.Sublist.refl _ | apply List.Sublist.cons_cons | apply List.Sublist.cons)⟩ (show i + 1 ≤ _ by omega) (by omega)
          · try dsimp only at hc105
            have hsel : ¬ selT true (kT (scL c) i) := by (rintro (h | h); cases h; omega)
            refine TC.skip ?_; refine block_normal ?_; refine then_normal ?_; refine TC.region ?_; refine TL.run1 (pure_move rfl) rfl ?_; refine TL.run1 (pure_add rfl rfl (mkI64 (by omega) (by omega))) rfl ?_; refine TL.run1 (pure_assign rfl) rfl ?_; refine TL.nil ?_
            have hst : (((txTo c true (i + 1)).length : Nat) : Int) = (((txTo c true i).length : Nat) : Int) := by (rw [txTo, if_neg hsel, List.append_nil])
            refine loop_next (i + 1) ⟨by ((try dsimp only); rw [hst, ← accS_succ hok hii, show (((i + 1 : Nat)) : Int) = (i : Int) + 1 by omega]; repeat (first | exact Agree.nil | refine Agree.cons rfl ?_)), by repeat (first | exact List.nil_sublist _ | exact List.Sublist.refl _ | apply List.Sublist.cons_cons | apply List.Sublist.cons)⟩ (show i + 1 ≤ _ by omega) (by omega)
      · try dsimp only at hc70
        refine TC.exit ?_; refine then_exit ?_; refine loop_exit ?_; refine block_here ?_; refine then_normal ?_
        have hie : i = (nT (scL c)) := by omega
        rw [hie, accS_end hok]
        refine TC.regionCut [120, 121, 122, 123, 124, 125, 126, 127, 128, 2] 2 (True) ?_ ?_
        · skip
          (iterate 2 refine TL.run1 (pure_move rfl) rfl ?_); refine TL.run1 (pure_eql_string rfl rfl) rfl ?_; refine TL.run1 (pure_move rfl) rfl ?_; refine TL.splitP 123 rfl (fun hg123 => ?_) (fun hg123 => ?_)
          · try dsimp only at hg123
            (iterate 2 refine TL.runG rfl rfl (pure_move rfl) rfl ?_); refine TL.runG rfl rfl (pure_len Ty.sl52 rfl) rfl ?_; refine TL.runG rfl rfl (pure_eql rfl rfl) rfl ?_; refine TL.run1 (pure_pick_true rfl rfl) rfl ?_; refine TL.run1 (pure_assign rfl) rfl ?_; refine TL.cutEnd (by repeat (first | exact Same.refl _ _ | refine Same.put rfl ?_)) rfl ?_
            first | (simp; done) | (simp_all; done)
          · try dsimp only at hg123
            (iterate 4 refine TL.passG rfl rfl rfl rfl ?_); refine TL.run1 (pure_pick_false rfl rfl) rfl ?_; refine TL.run1 (pure_assign rfl) rfl ?_; refine TL.cutEnd (by repeat (first | exact Same.refl _ _ | refine Same.put rfl ?_)) rfl ?_
            first | (simp; done) | (simp_all; done)
        refine TC.ret ?_
        exact ret_bool rfl (by simp)
end Go.Ob
