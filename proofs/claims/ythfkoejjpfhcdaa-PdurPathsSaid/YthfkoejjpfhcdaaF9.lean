import Derived.Test.YthfkoejjpfhcdaaF8
open Go Go.Proofs Go.Sy
namespace Go.Proofs.Ythfkoejjpfhcdaa

/-- What a change of each path must keep, that the router may be as before. -/
structure Keeps (n : Nat) (f : Way → Way) : Prop where
  fr : ∀ p, (f p).fr = p.fr
  to : ∀ p, (f p).to = p.to
  st : ∀ p, (f p).st = p.st
  cap : ∀ p, okW n p = true → rightR (f p).its.length (f p).cap = true ∧ (f p).its.any long = false
theorem samew_keeps {n : Nat} {f : Way → Way} (h : Keeps n f) (p q : Way) : samew (f p) (f q) = samew p q := by
  unfold samew
  rw [h.fr, h.fr, h.to, h.to]
theorem right_map {ps : List Way} {on on' : List Bool} {f : Way → Way} (h : rightW ps on = true) (hn : on'.length = on.length) (hf : Keeps on.length f) : rightW (ps.map f) on' = true := by
  have hs := right_size h
  unfold rightW
  rw [Bool.and_eq_true]
  refine ⟨decide_eq_true ⟨by omega, by omega, by rw [List.length_map]; omega⟩, ?_⟩
  rw [List.all_eq_true]
  intro i hi
  rw [List.mem_range, List.length_map] at hi
  rw [good_at (by rw [List.length_map]; exact hi), hn, List.getElem_map]
  obtain ⟨h1, h2⟩ := right_at h hi
  obtain ⟨h3, h4⟩ := hf.cap _ h1
  have h5 : okW on.length (f ps[i]) = true := by
    unfold okW at h1 ⊢
    rw [hf.fr, hf.to, hf.st, h3, h4]
    simp only [Bool.and_eq_true] at h1
    rw [h1.1.1]
    rfl
  rw [h5, ← List.map_take, List.any_map]
  have h6 : ((ps.take i).any (samew (f ps[i]) ∘ f)) = false := by
    rw [← h2]
    congr 1
    funext q
    exact samew_keeps hf _ _
  rw [h6]
  rfl
theorem keeps_off (n : Nat) (k : Int) : Keeps n (offW k) := by
  refine ⟨fun p => ?_, fun p => ?_, fun p => ?_, fun p hp => ?_⟩
  · unfold offW; split <;> rfl
  · unfold offW; split <;> rfl
  · unfold offW; split <;> rfl
  · unfold okW at hp
    simp only [Bool.and_eq_true] at hp
    obtain ⟨⟨_, h1⟩, h2⟩ := hp
    have := rightR_get h1
    unfold offW
    split
    · exact ⟨decide_eq_true ⟨by show 1 ≤ p.cap; omega, by show p.cap ≤ 16; omega, by show ((0 : Nat) : Int) ≤ p.cap; omega⟩, rfl⟩
    · exact ⟨h1, by simpa using h2⟩
theorem keeps_put (n : Nat) (on : List Bool) (fr : Int) (data : ByteArray) (hd : data.size ≤ 8) : Keeps n (putW on fr data) := by
  have e : ∀ p, putW on fr data p = p ∨ (((p.its.length : Int) < p.cap) ∧ putW on fr data p = { p with its := p.its ++ [data] }) ∨ (¬ ((p.its.length : Int) < p.cap) ∧ putW on fr data p = { p with its := p.its.drop 1 ++ [data] }) := by
    intro p
    unfold putW putOne
    split
    · split
      · exact .inr (.inl ⟨by assumption, rfl⟩)
      · split
        · exact .inr (.inr ⟨by assumption, rfl⟩)
        · exact .inl rfl
    · exact .inl rfl
  have hlong : long data = false := decide_eq_false (by omega)
  refine ⟨fun p => ?_, fun p => ?_, fun p => ?_, fun p hp => ?_⟩
  · rcases e p with h | ⟨_, h⟩ | ⟨_, h⟩ <;> rw [h]
  · rcases e p with h | ⟨_, h⟩ | ⟨_, h⟩ <;> rw [h]
  · rcases e p with h | ⟨_, h⟩ | ⟨_, h⟩ <;> rw [h]
  · unfold okW at hp
    simp only [Bool.and_eq_true] at hp
    obtain ⟨⟨_, h1⟩, h2⟩ := hp
    have h2 : p.its.any long = false := by simpa using h2
    have hr := rightR_get h1
    rcases e p with h | ⟨h3, h⟩ | ⟨h3, h⟩ <;> rw [h]
    · exact ⟨h1, h2⟩
    · refine ⟨decide_eq_true ⟨hr.1, hr.2.1, ?_⟩, ?_⟩
      · show (((p.its ++ [data]).length : Nat) : Int) ≤ p.cap
        simp; omega
      · show (p.its ++ [data]).any long = false
        rw [List.any_append, h2]; simp [hlong]
    · refine ⟨decide_eq_true ⟨hr.1, hr.2.1, ?_⟩, ?_⟩
      · show (((p.its.drop 1 ++ [data]).length : Nat) : Int) ≤ p.cap
        simp; omega
      · show (p.its.drop 1 ++ [data]).any long = false
        rw [List.any_append]
        have : (p.its.drop 1).any long = false := by
          rw [List.any_eq_false] at h2 ⊢
          exact fun x hx => h2 x (List.mem_of_mem_drop hx)
        rw [this]; simp [hlong]
abbrev w1 : Way := ⟨1, 2, 0, [], 2, false⟩
abbrev w2 : Way := ⟨1, 3, 0, [], 2, false⟩
set_option maxRecDepth 100000 in
theorem two_eff : Eff Try.prog 13 [] [] 0 (fun r _ _ => r = rtr [w1, w2] [true]) := by
  refine eff_of Try.func13 rfl rfl rfl fun cx e hP => ?_
  refine AWP.runL e tab_ok L13 300 rfl (by first | trivial | (simp [in64] <;> omega) | (simp only [in64, true_and, and_true]; omega)) ?_
  refine AWP.weakR 2 0 (el' := pS w1) rfl rfl (.cons (.refl _) (.cons (.refl _) (.cons (.refl _) (.cons (.nil 1) (.cons (.refl _) (.cons (.refl _) .nil)))))) ?_
  refine AWP.weakR 2 1 (el' := pS w2) rfl rfl (.cons (.refl _) (.cons (.refl _) (.cons (.refl _) (.cons (.nil 1) (.cons (.refl _) (.cons (.refl _) .nil)))))) ?_
  refine AWP.keepB [0, 2, 3] rfl ?_
  refine AWP.keep [0] rfl ?_
  refine AWP.freezeF (id := 2) ([w1, w2].map pD) rfl ?_ rfl rfl ?_ ?_ ?_
  (focus (rfl))
  (focus (first | (simp [lenFT, lenF]; done) ))
  (focus (first | (simp [lenFH, lenF, lenF.go, strip]; done) ))
  refine AWP.freezeF (id := 3) (onD [true]) rfl ?_ rfl rfl ?_ ?_ ?_
  (focus (rfl))
  (focus (first | (simp [lenFT, lenF]; done) ))
  (focus (first | (simp [lenFH, lenF, lenF.go, strip, Nat.beq, frzF]; done) ))
  refine AWP.ret e tab_ok rfl ?_
  rw [hP]
  rfl
set_option maxRecDepth 100000 in
theorem alive_eff : Eff Try.prog 7 [] [] 0 (fun r _ _ => r = .b true) := by
  have c1 := two_eff
  have hx : (⟨#[120]⟩ : ByteArray).size = 1 := rfl
  have c2 := put_eff [w1, w2] [true] 1 ⟨#[120]⟩ (by rfl) (by omega)
  have e1 : tk [true] 1 ⟨#[120]⟩ [w1, w2] = 2 := rfl
  have e2 : ls [true] 1 ⟨#[120]⟩ [w1, w2] = 0 := rfl
  rw [e1, e2] at c2
  generalize ([w1, w2].map (putW [true] 1 ⟨#[120]⟩)) = z at c2
  refine eff_of Try.func7 rfl rfl rfl fun cx e hP => ?_
  refine AWP.runL e tab_ok L7 300 rfl (by first | trivial | (simp [in64] <;> omega) | (simp only [in64, true_and, and_true]; omega)) ?_
  repeat (
    first
      | (refine AWP.askT rfl ?_; (first | (refine Told.t rfl ?_) | (refine Told.f rfl ?_) | (refine Told.t ?_ ?_; (focus assumption)) | (refine Told.f ?_ ?_; (focus assumption)) | (refine Told.t ?_ ?_; (focus (first | (simp; omega) | (simp [*]; done)); done)) | (refine Told.f ?_ ?_; (focus (first | (simp; omega) | (simp [*]; done)); done))); refine AWP.runL e tab_ok L7 300 rfl (by first | trivial | (simp [in64] <;> omega) | (simp only [in64, true_and, and_true]; omega)) ?_)
      | (refine AWP.callQ e rfl rfl ?_; (first | refine CallQ.mk (c1) rfl rfl ?_ | refine CallQ.mk (c2) rfl rfl ?_); refine AWP.runL e tab_ok L7 300 rfl (by first | trivial | (simp [in64] <;> omega) | (simp only [in64, true_and, and_true]; omega)) ?_)
      | (refine AWP.eq_agg e tab_ok rfl rfl rfl (.inl ⟨rfl, rfl⟩) ?_ 5 (by omega) rfl ?_ rfl rfl rfl rfl rfl rfl rfl ?_; (focus kernel_rfl); (focus kernel_rfl); refine AWP.runL e tab_ok L7 300 rfl (by first | trivial | (simp [in64] <;> omega) | (simp only [in64, true_and, and_true]; omega)) ?_)
      | (refine AWP.eq_agg e tab_ok rfl rfl rfl (.inr ⟨rfl, rfl⟩) ?_ 5 (by omega) rfl ?_ rfl rfl rfl rfl rfl rfl rfl ?_; (focus kernel_rfl); (focus kernel_rfl); refine AWP.runL e tab_ok L7 300 rfl (by first | trivial | (simp [in64] <;> omega) | (simp only [in64, true_and, and_true]; omega)) ?_)
    )
  refine AWP.ret e tab_ok rfl ?_
  rw [hP]
  all_goals first | rfl | (simp [strip]; done)
/-- A path behind its set was off, and on again, and bytes were put. -/
theorem put_off (on : List Bool) (fr : Int) (data : ByteArray) (k : Nat) (p : Way) (hon : on.getD k false = true) (hc : 1 ≤ p.cap) (hst : p.st = k) :
    (putW on fr data (offW k p)).its.length = (if p.fr = fr then 1 else 0) ∧ (offW k p).its.length = 0 ∧ (putW on fr data (offW k p)).st = k ∧ (putW on fr data (offW k p)).fr = p.fr := by
  have e : offW k p = { p with its := [] } := by unfold offW; rw [if_pos hst]
  rw [e]
  have g : goes on fr { p with its := [] } = (p.fr == fr) := by
    unfold goes
    show (p.fr == fr && on.getD p.st.toNat false) = _
    rw [hst, Int.toNat_natCast, hon, Bool.and_true]
  unfold putW putOne
  rw [g]
  by_cases h : p.fr = fr
  · rw [if_pos (by simpa using h), if_pos (by show ((0 : Nat) : Int) < p.cap; omega), if_pos h]
    exact ⟨rfl, rfl, hst, rfl⟩
  · rw [if_neg (by simpa using h), if_neg h]
    exact ⟨rfl, rfl, hst, rfl⟩
theorem put_else (on : List Bool) (fr : Int) (data : ByteArray) (k : Nat) (p : Way) (hst : p.st ≠ k) : (putW on fr data (offW k p)).st ≠ k := by
  rw [(keeps_put 0 on fr ⟨#[]⟩ (by decide)).st |> fun _ => show (putW on fr data (offW k p)).st = p.st from ?_]
  · exact hst
  · have e : offW k p = p := by unfold offW; rw [if_neg hst]
    rw [e]
    unfold putW putOne
    split
    · split
      · rfl
      · split <;> rfl
    · rfl
end Go.Proofs.Ythfkoejjpfhcdaa
