import Derived.Test.YtmcjfnbohogbdaaDoorF10
import Derived.Test.YtmcjfnbohogbdaaDoorShelf
import Derived.Test.YtmcjfnbohogbdaaDoorEd
open Go Go.Proofs Go.Sy Go.Stuff
namespace Go.Proofs.YtmcjfnbohogbdaaDoor

theorem has_iff (s sub : List UInt8) : Lib.contains s sub = true ↔ ∃ u v, s = u ++ (sub ++ v) := by
  unfold Lib.contains
  rw [decide_eq_true_eq]
  rcases Lib.index_spec s sub with ⟨h1, h2⟩ | ⟨i, h1, h2, h3, _⟩
  · rw [h1]
    constructor
    · intro h; exact absurd h (by decide)
    · rintro ⟨u, v, rfl⟩
      have := h2 u.length (by simp)
      unfold Lib.occAt at this
      rw [List.drop_left] at this
      have h3 : sub.isPrefixOf (sub ++ v) = true := List.isPrefixOf_iff_prefix.2 ⟨v, rfl⟩
      rw [h3] at this
      cases this
  · rw [h1]
    constructor
    · intro _
      unfold Lib.occAt at h3
      obtain ⟨v, hv⟩ := List.isPrefixOf_iff_prefix.1 h3
      exact ⟨s.take i, v, by rw [hv, List.take_append_drop]⟩
    · intro _; omega
def zeros : List UInt8 := [48, 48, 48, 48, 48]
def ones : List UInt8 := [49, 49, 49, 49, 49]
theorem has5_iff {s : List UInt8} (hb : ∀ c ∈ s, isB c) : has5 s ↔ (Lib.contains s zeros = true ∨ Lib.contains s ones = true) := by
  constructor
  · rintro ⟨u, v, c, h⟩
    have hc : isB c := hb c (by rw [h]; simp)
    rcases hc with rfl | rfl
    · exact .inl ((has_iff _ _).2 ⟨u, v, h⟩)
    · exact .inr ((has_iff _ _).2 ⟨u, v, h⟩)
  · rintro (h | h)
    · obtain ⟨u, v, h⟩ := (has_iff _ _).1 h
      exact ⟨u, v, 48, h⟩
    · obtain ⟨u, v, h⟩ := (has_iff _ _).1 h
      exact ⟨u, v, 49, h⟩
theorem has_eff (l : List UInt8) (sub : ByteArray) (hl : l.length ≤ 5000) : EffG Tryd.prog 19 [.s (strL l), .s sub] (HasInt 0) (fun r _ _ => r = .b (Lib.contains l sub.data.toList)) := by
  refine effG_calls [.string (strL l), .string sub] Tryd.func19 rfl rfl fun w hG => ?_
  obtain ⟨m, hm⟩ := hG
  refine (Any.strings_Contains Tryd.lays144 (strL l) sub m w (by rw [strL_size]; omega) hm).mono ?_
  rintro e w' ⟨rfl, rfl⟩
  refine ⟨?_, ⟨rfl, rfl, rfl, Nat.le_refl _, fun _ _ => rfl⟩⟩
  have h1 : (strL l).data.toList = l := by simp [strL]
  rw [h1]

theorem gc (cx : Cx) (hF : ∀ b, ¬ cx.F b) (hG : HasInt 0 cx.w0) (l : List UInt8) (sub : ByteArray) (hl : l.length ≤ 5000) {b : Bool} (h : Lib.contains l sub.data.toList = b) : GC cx Tryd.prog 19 [.s (strL l), .s sub] (.b b) := by
  subst h
  exact ⟨HasInt 0, HasInt.st 0, hF, hG, has_eff l sub hl⟩
set_option maxRecDepth 100000 in
set_option maxHeartbeats 2000000 in
theorem lone_bad (s l : List UInt8) (bit : Bool) (hl : l.length ≤ 500) (hcut : (strL s).extract 0 (if (500 : Int) < ((strL s).size : Int) then (500 : Int) else ((strL s).size : Int)).toNat = strL l) (hw : wellB l = false) : EffG Tryd.prog 7 [.s (strL s), .b bit] (HasInt 0) (fun r _ _ => r = .b true) := by
  have al := alive_eff
  have w := refright_eff l (by omega)
  rw [hw] at w
  refine effG_of Tryd.func7 rfl rfl rfl fun cx e hP hF hG => ?_
  refine AWP.runL e tab_ok L7 300 rfl (by first | trivial | (simp [] <;> omega) | (simp only [in64, true_and, and_true]; omega)) ?_
  refine AWP.eqT 0 (.s (strL l)) rfl (congrArg SV.s hcut) ?_
  refine AWP.eqT 18 (.s (strL l)) rfl (congrArg SV.s hcut) ?_
  clear hcut
  repeat (
    first
      | (refine AWP.askT rfl ?_; (first | (refine Told.t rfl ?_) | (refine Told.f rfl ?_) | (refine Told.t ?_ ?_; (focus assumption)) | (refine Told.f ?_ ?_; (focus assumption)) | (refine Told.t ?_ ?_; (focus (first | (simp; omega) | (simp [*]; done)); done)) | (refine Told.f ?_ ?_; (focus (first | (simp; omega) | (simp [*]; done)); done))); refine AWP.runL e tab_ok L7 300 rfl (by first | trivial | (simp [in64] <;> omega) | (simp only [in64, true_and, and_true]; omega)) ?_)
      | (refine AWP.callQ e rfl rfl ?_; (first | refine CallQ.mk (w) rfl rfl ?_ | refine CallQ.mk (al) rfl rfl ?_); refine AWP.runL e tab_ok L7 300 rfl (by first | trivial | (simp [in64] <;> omega) | (simp only [in64, true_and, and_true]; omega)) ?_)
      | (refine AWP.eq_agg e tab_ok rfl rfl rfl (.inl ⟨rfl, rfl⟩) ?_ 5 (by omega) rfl ?_ rfl rfl rfl rfl rfl rfl rfl ?_; (focus kernel_rfl); (focus kernel_rfl); refine AWP.runL e tab_ok L7 300 rfl (by first | trivial | (simp [in64] <;> omega) | (simp only [in64, true_and, and_true]; omega)) ?_)
      | (refine AWP.eq_agg e tab_ok rfl rfl rfl (.inr ⟨rfl, rfl⟩) ?_ 5 (by omega) rfl ?_ rfl rfl rfl rfl rfl rfl rfl ?_; (focus kernel_rfl); (focus kernel_rfl); refine AWP.runL e tab_ok L7 300 rfl (by first | trivial | (simp [in64] <;> omega) | (simp only [in64, true_and, and_true]; omega)) ?_)
    )
  refine AWP.ret e tab_ok rfl ?_
  rw [hP]
  all_goals first | rfl | (simp [strip]; done)
set_option maxRecDepth 100000 in
set_option maxHeartbeats 2000000 in
theorem lone_five (s l : List UInt8) (bit : Bool) (hl : l.length ≤ 500) (hcut : (strL s).extract 0 (if (500 : Int) < ((strL s).size : Int) then (500 : Int) else ((strL s).size : Int)).toNat = strL l) (hw : wellB l = true) (h5 : has5 l) : EffG Tryd.prog 7 [.s (strL s), .b bit] (HasInt 0) (fun r _ _ => r = .b true) := by
  have al := alive_eff
  have w := refright_eff l (by omega)
  rw [hw] at w
  have c1 := stuff_ok l hw
  have hlen : 4 * (stuffL x0 l).length ≤ 5 * l.length := (stuff_len l x0 (by decide) (well_isB hw)).2
  rw [stuffR_ok (by omega)] at c1
  have g1 : ((strL (stuffL x0 l)).toList == (strL l).toList) = false := by
    rw [beq_eq_false_iff_ne]
    intro h
    refine stuff_same_no5 l (well_isB hw) ?_ h5
    rwa [Go.Sy.strL_toList, Go.Sy.strL_toList] at h
  generalize stuffL x0 l = A at *
  rcases cases_b (Lib.contains l zeros) with q0 | q0
  · refine effG_of Tryd.func7 rfl rfl rfl fun cx e hP hF hG => ?_
    have k0 := gc cx hF hG l ⟨#[48, 48, 48, 48, 48]⟩ (by omega) q0
    refine AWP.runL e tab_ok L7 300 rfl (by first | trivial | (simp [] <;> omega) | (simp only [in64, true_and, and_true]; omega)) ?_
    refine AWP.eqT 0 (.s (strL l)) rfl (congrArg SV.s hcut) ?_
    refine AWP.eqT 18 (.s (strL l)) rfl (congrArg SV.s hcut) ?_
    clear hcut
    repeat (
      first
        | (refine AWP.askT rfl ?_; (first | (refine Told.t rfl ?_) | (refine Told.f rfl ?_) | (refine Told.t ?_ ?_; (focus assumption)) | (refine Told.f ?_ ?_; (focus assumption)) | (refine Told.t ?_ ?_; (focus (first | (simp; omega) | (simp [*]; done)); done)) | (refine Told.f ?_ ?_; (focus (first | (simp; omega) | (simp [*]; done)); done))); refine AWP.runL e tab_ok L7 300 rfl (by first | trivial | (simp [in64] <;> omega) | (simp only [in64, true_and, and_true]; omega)) ?_)
        | (refine AWP.callQ e rfl rfl ?_; (first | refine CallQ.mk (w) rfl rfl ?_ | refine CallQ.mk (c1) rfl rfl ?_ | refine CallQ.mk (al) rfl rfl ?_); refine AWP.runL e tab_ok L7 300 rfl (by first | trivial | (simp [in64] <;> omega) | (simp only [in64, true_and, and_true]; omega)) ?_)
        | (refine AWP.eq_agg e tab_ok rfl rfl rfl (.inl ⟨rfl, rfl⟩) ?_ 5 (by omega) rfl ?_ rfl rfl rfl rfl rfl rfl rfl ?_; (focus kernel_rfl); (focus kernel_rfl); refine AWP.runL e tab_ok L7 300 rfl (by first | trivial | (simp [in64] <;> omega) | (simp only [in64, true_and, and_true]; omega)) ?_)
        | (refine AWP.eq_agg e tab_ok rfl rfl rfl (.inr ⟨rfl, rfl⟩) ?_ 5 (by omega) rfl ?_ rfl rfl rfl rfl rfl rfl rfl ?_; (focus kernel_rfl); (focus kernel_rfl); refine AWP.runL e tab_ok L7 300 rfl (by first | trivial | (simp [in64] <;> omega) | (simp only [in64, true_and, and_true]; omega)) ?_)
        | (refine AWP.callG' e k0 rfl rfl rfl rfl ?_; refine AWP.runL e tab_ok L7 300 rfl (by first | trivial | (simp [in64] <;> omega) | (simp only [in64, true_and, and_true]; omega)) ?_)
      )
    refine AWP.ret e tab_ok rfl ?_
    rw [hP]
    all_goals first | rfl | (simp [strip]; done)
  · have q1 : Lib.contains l ones = true := by
      rcases (has5_iff (well_isB hw)).1 h5 with h | h
      · rw [q0] at h; cases h
      · exact h
    refine effG_of Tryd.func7 rfl rfl rfl fun cx e hP hF hG => ?_
    have k0 := gc cx hF hG l ⟨#[48, 48, 48, 48, 48]⟩ (by omega) q0
    refine AWP.runL e tab_ok L7 300 rfl (by first | trivial | (simp [] <;> omega) | (simp only [in64, true_and, and_true]; omega)) ?_
    refine AWP.eqT 0 (.s (strL l)) rfl (congrArg SV.s hcut) ?_
    refine AWP.eqT 18 (.s (strL l)) rfl (congrArg SV.s hcut) ?_
    clear hcut
    have k1 := gc cx hF hG l ⟨#[49, 49, 49, 49, 49]⟩ (by omega) q1
    repeat (
      first
        | (refine AWP.askT rfl ?_; (first | (refine Told.t rfl ?_) | (refine Told.f rfl ?_) | (refine Told.t ?_ ?_; (focus assumption)) | (refine Told.f ?_ ?_; (focus assumption)) | (refine Told.t ?_ ?_; (focus (first | (simp; omega) | (simp [*]; done)); done)) | (refine Told.f ?_ ?_; (focus (first | (simp; omega) | (simp [*]; done)); done))); refine AWP.runL e tab_ok L7 300 rfl (by first | trivial | (simp [in64] <;> omega) | (simp only [in64, true_and, and_true]; omega)) ?_)
        | (refine AWP.callQ e rfl rfl ?_; (first | refine CallQ.mk (w) rfl rfl ?_ | refine CallQ.mk (c1) rfl rfl ?_ | refine CallQ.mk (al) rfl rfl ?_); refine AWP.runL e tab_ok L7 300 rfl (by first | trivial | (simp [in64] <;> omega) | (simp only [in64, true_and, and_true]; omega)) ?_)
        | (refine AWP.eq_agg e tab_ok rfl rfl rfl (.inl ⟨rfl, rfl⟩) ?_ 5 (by omega) rfl ?_ rfl rfl rfl rfl rfl rfl rfl ?_; (focus kernel_rfl); (focus kernel_rfl); refine AWP.runL e tab_ok L7 300 rfl (by first | trivial | (simp [in64] <;> omega) | (simp only [in64, true_and, and_true]; omega)) ?_)
        | (refine AWP.eq_agg e tab_ok rfl rfl rfl (.inr ⟨rfl, rfl⟩) ?_ 5 (by omega) rfl ?_ rfl rfl rfl rfl rfl rfl rfl ?_; (focus kernel_rfl); (focus kernel_rfl); refine AWP.runL e tab_ok L7 300 rfl (by first | trivial | (simp [in64] <;> omega) | (simp only [in64, true_and, and_true]; omega)) ?_)
        | (refine AWP.callG' e k0 rfl rfl rfl rfl ?_; refine AWP.runL e tab_ok L7 300 rfl (by first | trivial | (simp [in64] <;> omega) | (simp only [in64, true_and, and_true]; omega)) ?_)
        | (refine AWP.callG' e k1 rfl rfl rfl rfl ?_; refine AWP.runL e tab_ok L7 300 rfl (by first | trivial | (simp [in64] <;> omega) | (simp only [in64, true_and, and_true]; omega)) ?_)
      )
    refine AWP.ret e tab_ok rfl ?_
    rw [hP]
    all_goals first | rfl | (simp [strip]; done)

theorem last_byte {l : List UInt8} {m : List UInt8} {c : UInt8} (h : l = m ++ [c]) : byteAt (strL l) (((strL l).size : Int) - 1) = (c.toNat : Int) := by
  subst h
  have : (((strL (m ++ [c])).size : Int) - 1) = ((m.length : Nat) : Int) := by rw [strL_size]; simp
  rw [this, b_D]
  simp
/-- The two bits of the tail, as bytes. -/
def tl (x y : UInt8) : List UInt8 := [x, y, y, y, y]
theorem tails (S : List UInt8) (x y : UInt8) (hx : isB x) (hy : isB y) (hl : S.length ≤ 501) (hb : ∀ c ∈ S, isB c) :
    ∃ A B : List UInt8, A.length ≤ 1000 ∧ B.length ≤ 1000 ∧ Eff Tryd.prog 14 [.s (strL (S ++ tl x y ++ [y]))] [] 0 (fun r _ _ => r = .tup [.s (strL B), .i 0]) ∧ Eff Tryd.prog 14 [.s (strL (S ++ tl x y))] [] 0 (fun r _ _ => r = .tup [.s (strL A), .i 0]) ∧
      (¬ has5 S → x ≠ y → (∀ hn : S ≠ [], S.getLast hn ≠ x) → A = S ++ tl x y ∧ B = S ++ tl x y ++ [y] ++ [x]) := by
  have hb1 : ∀ c ∈ S ++ tl x y, isB c := by
    intro c hc
    simp only [tl, List.mem_append, List.mem_cons, List.not_mem_nil, or_false] at hc
    rcases hc with hc | rfl | rfl | rfl | rfl | rfl
    · exact hb c hc
    · exact hx
    all_goals exact hy
  have hb2 : ∀ c ∈ S ++ tl x y ++ [y], isB c := by
    intro c hc
    rcases List.mem_append.1 hc with hc | hc
    · exact hb1 c hc
    · rw [List.mem_singleton.1 hc]; exact hy
  have hl1 : (S ++ tl x y).length ≤ 506 := by simp [tl]; omega
  have hl2 : (S ++ tl x y ++ [y]).length ≤ 507 := by simp [tl]; omega
  have n1 : 4 * (stuffL x0 (S ++ tl x y)).length ≤ 5 * (S ++ tl x y).length := (stuff_len _ x0 (by decide) hb1).2
  have n2 : 4 * (stuffL x0 (S ++ tl x y ++ [y])).length ≤ 5 * (S ++ tl x y ++ [y]).length := (stuff_len _ x0 (by decide) hb2).2
  have e1 := stuff_ok _ (well_of (by omega) hb1)
  have e2 := stuff_ok _ (well_of (by omega) hb2)
  rw [stuffR_ok (by omega)] at e1 e2
  refine ⟨_, _, ?_, ?_, e2, e1, fun h5 hxy hn => ?_⟩
  · omega
  · omega
  · have := five_behind S h5 hb x y hx hy hxy hn
    refine ⟨this.1, ?_⟩
    have h2 := this.2
    simp only [tl, List.append_assoc, List.cons_append, List.nil_append] at h2 ⊢
    exact h2
end Go.Proofs.YtmcjfnbohogbdaaDoor
