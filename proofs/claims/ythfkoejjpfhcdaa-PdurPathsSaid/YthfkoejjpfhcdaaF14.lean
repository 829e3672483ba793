import Derived.Test.YthfkoejjpfhcdaaEd
import Derived.Test.YthfkoejjpfhcdaaF13
open Go Go.Proofs Go.Sy
namespace Go.Proofs.Ythfkoejjpfhcdaa

def keyW (p : Way) : Key := (p.fr, p.to)
/-- What waits, by whence and whereto. -/
def wt : List Way → Key → List ByteArray
  | [], _ => []
  | p :: l, k => if k = keyW p then p.its else wt l k
theorem wt_set : ∀ {l : List Way} {j : Nat} {q : Way}, (l.map keyW).Nodup → (h : j < l.length) → keyW q = keyW l[j] → wt (l.set j q) = fun k => if k = keyW q then q.its else wt l k
  | p :: l, 0, q, hn, h, hq => by
    funext k
    have hq : keyW q = keyW p := hq
    show (if k = keyW q then q.its else wt l k) = if k = keyW q then q.its else if k = keyW p then p.its else wt l k
    split
    · rfl
    · rw [← hq, if_neg (by assumption)]
  | p :: l, j + 1, q, hn, h, hq => by
    funext k
    rw [List.map_cons, List.nodup_cons] at hn
    have h : j < l.length := by simpa using h
    have hq : keyW q = keyW l[j] := hq
    have ih := wt_set (q := q) hn.2 h hq
    show (if k = keyW p then p.its else wt (l.set j q) k) = if k = keyW q then q.its else if k = keyW p then p.its else wt l k
    rw [ih]
    by_cases h1 : k = keyW p
    · rw [if_pos h1, if_neg (fun h2 => hn.1 ?_), if_pos h1]
      rw [← h1, h2, hq]
      exact List.mem_map_of_mem (List.getElem_mem h)
    · rw [if_neg h1, if_neg h1]
theorem wt_at : ∀ {l : List Way} {j : Nat}, (l.map keyW).Nodup → (h : j < l.length) → wt l (keyW l[j]) = l[j].its
  | p :: l, 0, _, _ => if_pos rfl
  | p :: l, j + 1, hn, h => by
    rw [List.map_cons, List.nodup_cons] at hn
    have h : j < l.length := by simpa using h
    show (if keyW l[j] = keyW p then p.its else wt l (keyW l[j])) = l[j].its
    rw [if_neg fun h2 => hn.1 (by rw [← h2]; exact List.mem_map_of_mem (List.getElem_mem h)), wt_at hn.2 h]
theorem wt_mem : ∀ {l : List Way} {k : Key}, wt l k ≠ [] → ∃ p ∈ l, keyW p = k ∧ p.its = wt l k
  | [], k, h => absurd rfl h
  | p :: l, k, h => by
    have e : wt (p :: l) k = if k = keyW p then p.its else wt l k := rfl
    by_cases h1 : k = keyW p
    · rw [e, if_pos h1]; exact ⟨p, by simp, h1.symm, rfl⟩
    · rw [e, if_neg h1] at h ⊢
      obtain ⟨q, h2, h3, h4⟩ := wt_mem h
      exact ⟨q, by simp [h2], h3, h4⟩
theorem keys_nd {ps : List Way} {on : List Bool} (h : rightW ps on = true) : (ps.map keyW).Nodup := by
  rw [List.Nodup, List.pairwise_iff_getElem]
  intro i j hi hj hij he
  rw [List.length_map] at hi hj
  have he : keyW ps[i] = keyW ps[j] := by simpa using he
  have h2 := (right_at h hj).2
  rw [List.any_eq_false] at h2
  refine h2 ps[i] (List.mem_take_iff_getElem.2 ⟨i, by omega, rfl⟩) ?_
  unfold samew
  unfold keyW at he
  simp only [Prod.mk.injEq] at he
  simp [he.1, he.2]
theorem chTo_keys {f : Way → Way} (hf : ∀ p, keyW (f p) = keyW p) (l : List Way) (i : Nat) : (chTo f l i).map keyW = l.map keyW := by
  unfold chTo
  rw [List.map_append, List.map_map]
  have : keyW ∘ f = keyW := by funext p; exact hf p
  rw [this, ← List.map_append, List.take_append_drop]
theorem chTo_len (f : Way → Way) (l : List Way) (i : Nat) : (chTo f l i).length = l.length := by unfold chTo; simp; omega
/-- One step of a change of all. -/
theorem wt_step {f : Way → Way} (hf : ∀ p, keyW (f p) = keyW p) {l : List Way} (hn : (l.map keyW).Nodup) {i : Nat} (h : i < l.length) :
    wt (chTo f l (i + 1)) = (fun k => if k = keyW l[i] then (f l[i]).its else wt (chTo f l i) k) ∧ wt (chTo f l i) (keyW l[i]) = l[i].its := by
  have hl : i < (chTo f l i).length := by rw [chTo_len]; exact h
  have hat : (chTo f l i)[i] = l[i] := by
    have := chTo_at (f := f) h
    rw [List.getElem?_eq_getElem hl] at this
    exact Option.some.inj this
  have hnd : ((chTo f l i).map keyW).Nodup := by rw [chTo_keys hf]; exact hn
  refine ⟨?_, ?_⟩
  · rw [← chTo_set h, wt_set hnd hl (by rw [hat, hf]), hf]
  · have := wt_at hnd hl
    rwa [hat] at this
theorem chTo_zero (f : Way → Way) (l : List Way) : chTo f l 0 = l := by unfold chTo; simp
theorem chTo_same {f : Way → Way} {l : List Way} {i : Nat} (h : i < l.length) (hf : f l[i] = l[i]) : chTo f l (i + 1) = chTo f l i := by
  rw [← chTo_set h, hf]
  exact set_same (chTo_at h)
theorem fits_none {l : List Way} {to : Int} (h : l.any (fits to) = false) {k : Key} (hk : k.2 = to) : wt l k = [] := by
  refine Classical.byContradiction fun hne => ?_
  obtain ⟨p, h1, h2, h3⟩ := wt_mem hne
  rw [List.any_eq_false] at h
  refine h p h1 ?_
  unfold fits
  have : 0 < p.its.length := List.length_pos_iff.2 (by rw [h3]; exact hne)
  rw [← h2] at hk
  have hk : p.to = to := hk
  simp [hk, this]
theorem fits_some {l : List Way} {to : Int} (h : l.any (fits to) = true) : ∃ (i : Nat) (hi : i < l.length), (l.take i).any (fits to) = false ∧ fits to l[i] = true := by
  refine ⟨l.findIdx (fits to), List.findIdx_lt_length.2 (by obtain ⟨x, h1, h2⟩ := List.any_eq_true.1 h; exact ⟨x, h1, h2⟩), ?_, List.findIdx_getElem⟩
  rw [List.any_eq_false]
  intro x hx
  obtain ⟨j, hj, rfl⟩ := List.mem_take_iff_getElem.1 hx
  have := List.not_of_lt_findIdx (p := fits to) (xs := l) (i := j) (by omega)
  simpa using this
/-- The oldest taken off the way of that key. -/
def cutK (k : Key) (p : Way) : Way := if keyW p = k then { p with its := p.its.drop 1 } else p
theorem keeps_cutK (n : Nat) (k : Key) : Keeps n (cutK k) := by
  refine ⟨fun p => ?_, fun p => ?_, fun p => ?_, fun p hp => ?_⟩
  · unfold cutK; split <;> rfl
  · unfold cutK; split <;> rfl
  · unfold cutK; split <;> rfl
  · unfold okW at hp
    simp only [Bool.and_eq_true] at hp
    obtain ⟨⟨_, h1⟩, h2⟩ := hp
    have := rightR_get h1
    unfold cutK
    split
    · refine ⟨decide_eq_true ⟨by show 1 ≤ p.cap; omega, by show p.cap ≤ 16; omega, by show (((p.its.drop 1).length : Nat) : Int) ≤ p.cap; rw [List.length_drop]; omega⟩, ?_⟩
      have h2 : p.its.any long = false := by simpa using h2
      rw [List.any_eq_false] at h2
      show (p.its.drop 1).any long = false
      rw [List.any_eq_false]
      exact fun s hs => h2 s (List.mem_of_mem_drop hs)
    · exact ⟨h1, by simpa using h2⟩
theorem map_cutK : ∀ {l : List Way} {i : Nat}, (l.map keyW).Nodup → (h : i < l.length) → l.map (cutK (keyW l[i])) = l.set i { l[i] with its := l[i].its.drop 1 }
  | p :: l, 0, hn, _ => by
    rw [List.map_cons, List.nodup_cons] at hn
    show cutK (keyW p) p :: l.map (cutK (keyW p)) = { p with its := p.its.drop 1 } :: l
    have h1 : cutK (keyW p) p = { p with its := p.its.drop 1 } := if_pos rfl
    have h2 : l.map (cutK (keyW p)) = l.map id := List.map_congr_left fun q hq => if_neg fun h => hn.1 (by rw [← h]; exact List.mem_map_of_mem hq)
    rw [h1, h2, List.map_id]
  | p :: l, i + 1, hn, h => by
    rw [List.map_cons, List.nodup_cons] at hn
    have h : i < l.length := by simpa using h
    show cutK (keyW l[i]) p :: l.map (cutK (keyW l[i])) = p :: l.set i { l[i] with its := l[i].its.drop 1 }
    have h1 : cutK (keyW l[i]) p = p := if_neg fun h2 => hn.1 (by rw [h2]; exact List.mem_map_of_mem (List.getElem_mem h))
    rw [h1, map_cutK hn.2 h]
/-- What is left when one has been taken. -/
theorem took {l : List Way} {on : List Bool} (h : rightW l on = true) {i : Nat} (hi : i < l.length) {x : ByteArray} {its : List ByteArray} (hx : l[i].its = x :: its) :
    rightW (l.set i { l[i] with its := its }) on = true ∧ wt (l.set i { l[i] with its := its }) = (fun k => if k = keyW l[i] then its else wt l k) ∧ wt l (keyW l[i]) = x :: its := by
  have hn := keys_nd h
  have e : { l[i] with its := l[i].its.drop 1 } = { l[i] with its := its } := by rw [hx]; rfl
  refine ⟨?_, wt_set hn hi rfl, (wt_at hn hi).trans hx⟩
  have := right_map h rfl (keeps_cutK _ (keyW l[i]))
  rw [map_cutK hn hi, e] at this
  exact this

theorem und41 : Try.prog.underlying 41 = some (.map 45 34) := by kernel_rfl
theorem zero34 (w : World) : (zeroValue 34).run Try.prog w = .ok nilV w := by rfl
theorem key_tv (a : Key) (w : World) : TV Try.prog tab (fun _ => none) (fun _ => False) w 45 [.i a.1, .i a.2] (keyV a) := by
  refine ⟨rfl, .inl ⟨_, rfl, rfl, _, rfl, rfl, fun j c u hc hu => ?_⟩⟩
  match j with
  | 0 => cases hc; cases hu; exact .d (.v _)
  | 1 => cases hc; cases hu; exact .d (.v _)
  | j + 2 => cases hc
theorem key_eq (a b : Key) (w : World) : (Op.equal 45 (keyV a) (keyV b)).run Try.prog w = .ok (a == b) w := by
  have h := eq_run (μ := fun _ => none) (ok := fun _ => False) (w := w) tab_ok 3 45 [.i a.1, .i a.2] [.i b.1, .i b.2] (keyV a) (keyV b) _ 10000 (by decide) rfl (by kernel_rfl) rfl rfl rfl (key_tv a w) (key_tv b w)
  obtain ⟨a1, a2⟩ := a
  obtain ⟨b1, b2⟩ := b
  refine h.trans ?_
  congr 1
  show ((a1 == b1) && ((a2 == b2) && true)) = ((a1 == b1) && (a2 == b2))
  rw [Bool.and_true]
theorem key45 : KeyOk Try.prog 45 := ⟨⟨_, rfl, fun a b => rfl⟩, key_eq, fun em a w => rfl⟩
end Go.Proofs.Ythfkoejjpfhcdaa
