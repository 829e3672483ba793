import Derived.Test.YtdjhmlmdcfgphaaF2
open Go Go.Proofs Go.Sy
namespace Go.Proofs.Ytdjhmlmdcfgphaa

theorem shl1 (i : Nat) : IntKind.wrap .u16 ((1 : Int) * 2 ^ (min ((i : Nat) : Int).toNat 16)) = ((1#16 <<< i).toNat : Int) := by
  rw [show (1 : Int) = (((1#16).toNat : Nat) : Int) from rfl, u16shl]
theorem andN_shl (x : BitVec 16) (i : Nat) : (IntKind.wrap .u16 ((BitVec.ofInt 16 (x.toNat : Int) &&& ~~~ BitVec.ofInt 16 (IntKind.wrap .u16 ((1 : Int) * 2 ^ (min ((i : Nat) : Int).toNat 16)))).toNat : Int)) = ((x &&& ~~~(1#16 <<< i)).toNat : Int) := by
  rw [shl1, ofInt_toNat, ofInt_toNat, u16w]

abbrev pnZ (m : BitVec 16) (z : Int) (s : Nat → Int) (l : Int) : SV := .agg [U16 m, .d (.v (.int .u16 z)), .i (s 0), .i (s 1), .i (s 2), .i (s 3), .i (s 4), .i (s 5), .i (s 6), .i (s 7), .i (s 8), .i (s 9), .i (s 10), .i (s 11), .i (s 12), .i (s 13), .i (s 14), .i (s 15), .i l]
def wantB (o : BitVec 16) (i : Nat) (on : Bool) : BitVec 16 := if on then (o &&& ~~~(1#16 <<< i)) ||| (1#16 <<< i) else o &&& ~~~(1#16 <<< i)
theorem wantB_bit (o : BitVec 16) (i : Nat) (on : Bool) (k : Nat) (hk : k < 16) : (wantB o i on).getLsbD k = if k = i then on else o.getLsbD k := by
  have h1 : (1#16 <<< i).getLsbD k = decide (k = i) := by
    by_cases e : k = i
    · subst e; simp [hk]
    · simp [hk, e]; omega
  unfold wantB
  by_cases e : k = i
  · subst e
    cases on <;> simp [hk]
  · have h2 : (1#16 <<< i).getLsbD k = false := by rw [h1]; simp [e]
    cases on
    · simp only [Bool.false_eq_true, if_false, BitVec.getLsbD_and, BitVec.getLsbD_not, h2, hk, decide_true, Bool.not_false, Bool.and_true, if_neg e]
    · simp only [if_true, BitVec.getLsbD_or, BitVec.getLsbD_and, BitVec.getLsbD_not, h2, hk, decide_true, Bool.not_false, Bool.and_true, Bool.or_false, if_neg e]

theorem bit_range (m : BitVec 16) {i : Nat} (h : m.getLsbD i = true) : i < 16 := BitVec.lt_of_getLsbD h

set_option maxRecDepth 100000 in
theorem want_ok (m o : BitVec 16) (s : Nat → Int) (l : Int) (i : Nat) (on : Bool) (h : rightB m o s l = true) (hi : m.getLsbD i = true) : Eff Try.prog 9 [pn m o s l, .i i, .b on] [] 0 (fun r _ _ => r = .tup [pn m (wantB o i on) s l, .i 0]) := by
  have hr := right_eff m o s l
  have hb := bit_eff m i
  have hlt := bit_range m hi
  rw [h] at hr
  rw [hi] at hb
  refine eff_of Try.func9 rfl rfl rfl fun cx e hP => ?_
  cases on
  · refine AWP.runL e tab_ok L9 300 rfl (by first | trivial | (simp [in64] <;> omega)) ?_
    repeat (
      first
        | (refine AWP.askT rfl ?_; (first | (refine Told.t rfl ?_) | (refine Told.f rfl ?_) | (refine Told.t ?_ ?_; (focus (first | assumption | (simp; omega) | (simp [*]; done)); done)) | (refine Told.f ?_ ?_; (focus (first | assumption | (simp; omega) | (simp [*]; done)); done))); refine AWP.runL e tab_ok L9 300 rfl (by first | trivial | (simp [in64] <;> omega)) ?_)
        | (refine AWP.callQ e rfl rfl ?_; (first | refine CallQ.mk (hr) rfl rfl ?_ | refine CallQ.mk (hb) rfl rfl ?_); refine AWP.runL e tab_ok L9 300 rfl (by first | trivial | (simp [in64] <;> omega)) ?_)
        | (refine AWP.eq_agg e tab_ok rfl rfl rfl (.inl ⟨rfl, rfl⟩) ?_ 5 (by omega) rfl ?_ rfl rfl rfl rfl rfl rfl rfl ?_; (focus kernel_rfl); (focus kernel_rfl); refine AWP.runL e tab_ok L9 300 rfl (by first | trivial | (simp [in64] <;> omega)) ?_)
        | (refine AWP.eq_agg e tab_ok rfl rfl rfl (.inr ⟨rfl, rfl⟩) ?_ 5 (by omega) rfl ?_ rfl rfl rfl rfl rfl rfl rfl ?_; (focus kernel_rfl); (focus kernel_rfl); refine AWP.runL e tab_ok L9 300 rfl (by first | trivial | (simp [in64] <;> omega)) ?_)
        | (refine AWP.keep L9 rfl ?_; refine AWP.drg 100 ?_; (refine DrG.runS e tab_ok 200 rfl (by first | trivial | (simp [] <;> omega)) ?_); (repeat (first | (refine DrG.askT rfl ?_; (first | (refine Told.t rfl ?_) | (refine Told.f rfl ?_) | (refine Told.t ?_ ?_; (focus (first | assumption | (simp; omega) | (simp [*]; done)); done)) | (refine Told.f ?_ ?_; (focus (first | assumption | (simp; omega) | (simp [*]; done)); done))); (refine DrG.runS e tab_ok 200 rfl (by first | trivial | (simp [in64] <;> omega)) ?_)) | (refine DrG.callQ e rfl rfl ?_; (first | refine CallVQ.mk (hr) rfl rfl ?_ | refine CallVQ.mk (hb) rfl rfl ?_); (refine DrG.runS e tab_ok 200 rfl (by first | trivial | (simp [in64] <;> omega)) ?_)) | (refine DrG.callGo e rfl rfl rfl ?_; (first | refine CallVQ.mk (hr) rfl rfl ?_ | refine CallVQ.mk (hb) rfl rfl ?_); (refine DrG.runS e tab_ok 200 rfl (by first | trivial | (simp [in64] <;> omega)) ?_)) | (refine DrG.eq_agg e tab_ok rfl rfl rfl (.inl ⟨rfl, rfl⟩) ?_ 5 (by omega) rfl ?_ rfl rfl rfl rfl rfl rfl rfl ?_; (focus kernel_rfl); (focus kernel_rfl); (refine DrG.runS e tab_ok 200 rfl (by first | trivial | (simp [in64] <;> omega)) ?_)) | (refine DrG.eq_aggGo e tab_ok rfl rfl rfl rfl (.inl ⟨rfl, rfl⟩) ?_ 5 (by omega) rfl ?_ rfl rfl rfl rfl rfl rfl rfl ?_; (focus kernel_rfl); (focus kernel_rfl); (refine DrG.runS e tab_ok 200 rfl (by first | trivial | (simp [in64] <;> omega)) ?_)) | (refine DrG.eq_agg e tab_ok rfl rfl rfl (.inr ⟨rfl, rfl⟩) ?_ 5 (by omega) rfl ?_ rfl rfl rfl rfl rfl rfl rfl ?_; (focus kernel_rfl); (focus kernel_rfl); (refine DrG.runS e tab_ok 200 rfl (by first | trivial | (simp [in64] <;> omega)) ?_)) | (refine DrG.eq_aggGo e tab_ok rfl rfl rfl rfl (.inr ⟨rfl, rfl⟩) ?_ 5 (by omega) rfl ?_ rfl rfl rfl rfl rfl rfl rfl ?_; (focus kernel_rfl); (focus kernel_rfl); (refine DrG.runS e tab_ok 200 rfl (by first | trivial | (simp [in64] <;> omega)) ?_)))); refine DrG.finK e rfl ?_ rfl rfl rfl ?_ ?_; (focus kernel_rfl); (focus (repeat' (first | exact True.intro | (refine And.intro ?_ ?_) | rfl | assumption | exact okRow _))); dsimp only [tmS, hpS, tput, effH]; refine AWP.runL e tab_ok L9 300 rfl (by first | trivial | (simp [in64] <;> omega)) ?_)
      )
    refine AWP.ret e tab_ok rfl ?_
    rw [hP]
    exact congrArg (fun z => SV.tup [pnZ m z s l, .i 0]) (andN_shl _ _)
  · refine AWP.runL e tab_ok L9 300 rfl (by first | trivial | (simp [in64] <;> omega)) ?_
    repeat (
      first
        | (refine AWP.askT rfl ?_; (first | (refine Told.t rfl ?_) | (refine Told.f rfl ?_) | (refine Told.t ?_ ?_; (focus (first | assumption | (simp; omega) | (simp [*]; done)); done)) | (refine Told.f ?_ ?_; (focus (first | assumption | (simp; omega) | (simp [*]; done)); done))); refine AWP.runL e tab_ok L9 300 rfl (by first | trivial | (simp [in64] <;> omega)) ?_)
        | (refine AWP.callQ e rfl rfl ?_; (first | refine CallQ.mk (hr) rfl rfl ?_ | refine CallQ.mk (hb) rfl rfl ?_); refine AWP.runL e tab_ok L9 300 rfl (by first | trivial | (simp [in64] <;> omega)) ?_)
        | (refine AWP.eq_agg e tab_ok rfl rfl rfl (.inl ⟨rfl, rfl⟩) ?_ 5 (by omega) rfl ?_ rfl rfl rfl rfl rfl rfl rfl ?_; (focus kernel_rfl); (focus kernel_rfl); refine AWP.runL e tab_ok L9 300 rfl (by first | trivial | (simp [in64] <;> omega)) ?_)
        | (refine AWP.eq_agg e tab_ok rfl rfl rfl (.inr ⟨rfl, rfl⟩) ?_ 5 (by omega) rfl ?_ rfl rfl rfl rfl rfl rfl rfl ?_; (focus kernel_rfl); (focus kernel_rfl); refine AWP.runL e tab_ok L9 300 rfl (by first | trivial | (simp [in64] <;> omega)) ?_)
        | (refine AWP.keep L9 rfl ?_; refine AWP.drg 100 ?_; (refine DrG.runS e tab_ok 200 rfl (by first | trivial | (simp [] <;> omega)) ?_); (repeat (first | (refine DrG.askT rfl ?_; (first | (refine Told.t rfl ?_) | (refine Told.f rfl ?_) | (refine Told.t ?_ ?_; (focus (first | assumption | (simp; omega) | (simp [*]; done)); done)) | (refine Told.f ?_ ?_; (focus (first | assumption | (simp; omega) | (simp [*]; done)); done))); (refine DrG.runS e tab_ok 200 rfl (by first | trivial | (simp [in64] <;> omega)) ?_)) | (refine DrG.callQ e rfl rfl ?_; (first | refine CallVQ.mk (hr) rfl rfl ?_ | refine CallVQ.mk (hb) rfl rfl ?_); (refine DrG.runS e tab_ok 200 rfl (by first | trivial | (simp [in64] <;> omega)) ?_)) | (refine DrG.callGo e rfl rfl rfl ?_; (first | refine CallVQ.mk (hr) rfl rfl ?_ | refine CallVQ.mk (hb) rfl rfl ?_); (refine DrG.runS e tab_ok 200 rfl (by first | trivial | (simp [in64] <;> omega)) ?_)) | (refine DrG.eq_agg e tab_ok rfl rfl rfl (.inl ⟨rfl, rfl⟩) ?_ 5 (by omega) rfl ?_ rfl rfl rfl rfl rfl rfl rfl ?_; (focus kernel_rfl); (focus kernel_rfl); (refine DrG.runS e tab_ok 200 rfl (by first | trivial | (simp [in64] <;> omega)) ?_)) | (refine DrG.eq_aggGo e tab_ok rfl rfl rfl rfl (.inl ⟨rfl, rfl⟩) ?_ 5 (by omega) rfl ?_ rfl rfl rfl rfl rfl rfl rfl ?_; (focus kernel_rfl); (focus kernel_rfl); (refine DrG.runS e tab_ok 200 rfl (by first | trivial | (simp [in64] <;> omega)) ?_)) | (refine DrG.eq_agg e tab_ok rfl rfl rfl (.inr ⟨rfl, rfl⟩) ?_ 5 (by omega) rfl ?_ rfl rfl rfl rfl rfl rfl rfl ?_; (focus kernel_rfl); (focus kernel_rfl); (refine DrG.runS e tab_ok 200 rfl (by first | trivial | (simp [in64] <;> omega)) ?_)) | (refine DrG.eq_aggGo e tab_ok rfl rfl rfl rfl (.inr ⟨rfl, rfl⟩) ?_ 5 (by omega) rfl ?_ rfl rfl rfl rfl rfl rfl rfl ?_; (focus kernel_rfl); (focus kernel_rfl); (refine DrG.runS e tab_ok 200 rfl (by first | trivial | (simp [in64] <;> omega)) ?_)))); refine DrG.finK e rfl ?_ rfl rfl rfl ?_ ?_; (focus kernel_rfl); (focus (repeat' (first | exact True.intro | (refine And.intro ?_ ?_) | rfl | assumption | exact okRow _))); dsimp only [tmS, hpS, tput, effH]; refine AWP.runL e tab_ok L9 300 rfl (by first | trivial | (simp [in64] <;> omega)) ?_)
      )
    refine AWP.ret e tab_ok rfl ?_
    rw [hP]
    exact congrArg (fun z => SV.tup [pnZ m z s l, .i 0]) ((congrArg (fun z => IntKind.wrap .u16 ((BitVec.ofInt 16 z ||| BitVec.ofInt 16 (IntKind.wrap .u16 ((1 : Int) * 2 ^ (min ((i : Nat) : Int).toNat 16)))).toNat : Int)) (andN_shl o i)).trans (or_shl _ _))

set_option maxRecDepth 100000 in
theorem want_bad (m o : BitVec 16) (s : Nat → Int) (l i : Int) (on : Bool) (h : rightB m o s l = false) : Eff Try.prog 9 [pn m o s l, .i i, .b on] [] 0 (fun r _ _ => r = .tup [pn0, .i 1]) := by
  have hr := right_eff m o s l
  rw [h] at hr
  refine eff_of Try.func9 rfl rfl rfl fun cx e hP => ?_
  refine AWP.runL e tab_ok L9 300 rfl (by first | trivial | (simp [in64] <;> omega)) ?_
  repeat (
    first
      | (refine AWP.askT rfl ?_; (first | (refine Told.t rfl ?_) | (refine Told.f rfl ?_) | (refine Told.t ?_ ?_; (focus (first | assumption | (simp; omega) | (simp [*]; done)); done)) | (refine Told.f ?_ ?_; (focus (first | assumption | (simp; omega) | (simp [*]; done)); done))); refine AWP.runL e tab_ok L9 300 rfl (by first | trivial | (simp [in64] <;> omega)) ?_)
      | (refine AWP.callQ e rfl rfl ?_; (first | refine CallQ.mk (hr) rfl rfl ?_); refine AWP.runL e tab_ok L9 300 rfl (by first | trivial | (simp [in64] <;> omega)) ?_)
      | (refine AWP.eq_agg e tab_ok rfl rfl rfl (.inl ⟨rfl, rfl⟩) ?_ 5 (by omega) rfl ?_ rfl rfl rfl rfl rfl rfl rfl ?_; (focus kernel_rfl); (focus kernel_rfl); refine AWP.runL e tab_ok L9 300 rfl (by first | trivial | (simp [in64] <;> omega)) ?_)
      | (refine AWP.eq_agg e tab_ok rfl rfl rfl (.inr ⟨rfl, rfl⟩) ?_ 5 (by omega) rfl ?_ rfl rfl rfl rfl rfl rfl rfl ?_; (focus kernel_rfl); (focus kernel_rfl); refine AWP.runL e tab_ok L9 300 rfl (by first | trivial | (simp [in64] <;> omega)) ?_)
    )
  refine AWP.ret e tab_ok rfl ?_
  rw [hP]
  all_goals first | rfl | (simp [strip]; done)

set_option maxRecDepth 100000 in
theorem want_out (m o : BitVec 16) (s : Nat → Int) (l i : Int) (on : Bool) (h : rightB m o s l = true) (hi : i < 0 ∨ 16 ≤ i) : Eff Try.prog 9 [pn m o s l, .i i, .b on] [] 0 (fun r _ _ => r = .tup [pn0, .i 1]) := by
  have hr := right_eff m o s l
  rw [h] at hr
  refine eff_of Try.func9 rfl rfl rfl fun cx e hP => ?_
  rcases hi with hi | hi
  · refine AWP.runL e tab_ok L9 300 rfl (by first | trivial | (simp [in64] <;> omega)) ?_
    repeat (
      first
        | (refine AWP.askT rfl ?_; (first | (refine Told.t rfl ?_) | (refine Told.f rfl ?_) | (refine Told.t ?_ ?_; (focus (first | assumption | (simp; omega) | (simp [*]; done)); done)) | (refine Told.f ?_ ?_; (focus (first | assumption | (simp; omega) | (simp [*]; done)); done))); refine AWP.runL e tab_ok L9 300 rfl (by first | trivial | (simp [in64] <;> omega)) ?_)
        | (refine AWP.callQ e rfl rfl ?_; (first | refine CallQ.mk (hr) rfl rfl ?_); refine AWP.runL e tab_ok L9 300 rfl (by first | trivial | (simp [in64] <;> omega)) ?_)
        | (refine AWP.eq_agg e tab_ok rfl rfl rfl (.inl ⟨rfl, rfl⟩) ?_ 5 (by omega) rfl ?_ rfl rfl rfl rfl rfl rfl rfl ?_; (focus kernel_rfl); (focus kernel_rfl); refine AWP.runL e tab_ok L9 300 rfl (by first | trivial | (simp [in64] <;> omega)) ?_)
        | (refine AWP.eq_agg e tab_ok rfl rfl rfl (.inr ⟨rfl, rfl⟩) ?_ 5 (by omega) rfl ?_ rfl rfl rfl rfl rfl rfl rfl ?_; (focus kernel_rfl); (focus kernel_rfl); refine AWP.runL e tab_ok L9 300 rfl (by first | trivial | (simp [in64] <;> omega)) ?_)
      )
    refine AWP.ret e tab_ok rfl ?_
    rw [hP]
    all_goals first | rfl | (simp [strip]; done)
  · refine AWP.runL e tab_ok L9 300 rfl (by first | trivial | (simp [in64] <;> omega)) ?_
    repeat (
      first
        | (refine AWP.askT rfl ?_; (first | (refine Told.t rfl ?_) | (refine Told.f rfl ?_) | (refine Told.t ?_ ?_; (focus (first | assumption | (simp; omega) | (simp [*]; done)); done)) | (refine Told.f ?_ ?_; (focus (first | assumption | (simp; omega) | (simp [*]; done)); done))); refine AWP.runL e tab_ok L9 300 rfl (by first | trivial | (simp [in64] <;> omega)) ?_)
        | (refine AWP.callQ e rfl rfl ?_; (first | refine CallQ.mk (hr) rfl rfl ?_); refine AWP.runL e tab_ok L9 300 rfl (by first | trivial | (simp [in64] <;> omega)) ?_)
        | (refine AWP.eq_agg e tab_ok rfl rfl rfl (.inl ⟨rfl, rfl⟩) ?_ 5 (by omega) rfl ?_ rfl rfl rfl rfl rfl rfl rfl ?_; (focus kernel_rfl); (focus kernel_rfl); refine AWP.runL e tab_ok L9 300 rfl (by first | trivial | (simp [in64] <;> omega)) ?_)
        | (refine AWP.eq_agg e tab_ok rfl rfl rfl (.inr ⟨rfl, rfl⟩) ?_ 5 (by omega) rfl ?_ rfl rfl rfl rfl rfl rfl rfl ?_; (focus kernel_rfl); (focus kernel_rfl); refine AWP.runL e tab_ok L9 300 rfl (by first | trivial | (simp [in64] <;> omega)) ?_)
      )
    refine AWP.ret e tab_ok rfl ?_
    rw [hP]
    all_goals first | rfl | (simp [strip]; done)

set_option maxRecDepth 100000 in
theorem want_no (m o : BitVec 16) (s : Nat → Int) (l : Int) (i : Nat) (on : Bool) (h : rightB m o s l = true) (h16 : i < 16) (hi : m.getLsbD i = false) : Eff Try.prog 9 [pn m o s l, .i i, .b on] [] 0 (fun r _ _ => r = .tup [pn0, .i 1]) := by
  have hr := right_eff m o s l
  have hb := bit_eff m i
  rw [h] at hr
  rw [hi] at hb
  refine eff_of Try.func9 rfl rfl rfl fun cx e hP => ?_
  refine AWP.runL e tab_ok L9 300 rfl (by first | trivial | (simp [in64] <;> omega)) ?_
  repeat (
    first
      | (refine AWP.askT rfl ?_; (first | (refine Told.t rfl ?_) | (refine Told.f rfl ?_) | (refine Told.t ?_ ?_; (focus (first | assumption | (simp; omega) | (simp [*]; done)); done)) | (refine Told.f ?_ ?_; (focus (first | assumption | (simp; omega) | (simp [*]; done)); done))); refine AWP.runL e tab_ok L9 300 rfl (by first | trivial | (simp [in64] <;> omega)) ?_)
      | (refine AWP.callQ e rfl rfl ?_; (first | refine CallQ.mk (hr) rfl rfl ?_ | refine CallQ.mk (hb) rfl rfl ?_); refine AWP.runL e tab_ok L9 300 rfl (by first | trivial | (simp [in64] <;> omega)) ?_)
      | (refine AWP.eq_agg e tab_ok rfl rfl rfl (.inl ⟨rfl, rfl⟩) ?_ 5 (by omega) rfl ?_ rfl rfl rfl rfl rfl rfl rfl ?_; (focus kernel_rfl); (focus kernel_rfl); refine AWP.runL e tab_ok L9 300 rfl (by first | trivial | (simp [in64] <;> omega)) ?_)
      | (refine AWP.eq_agg e tab_ok rfl rfl rfl (.inr ⟨rfl, rfl⟩) ?_ 5 (by omega) rfl ?_ rfl rfl rfl rfl rfl rfl rfl ?_; (focus kernel_rfl); (focus kernel_rfl); refine AWP.runL e tab_ok L9 300 rfl (by first | trivial | (simp [in64] <;> omega)) ?_)
    )
  refine AWP.ret e tab_ok rfl ?_
  rw [hP]
  all_goals first | rfl | (simp [strip]; done)

-- what may be stays such
theorem andNot_iff {m o : BitVec 16} : o &&& ~~~m = 0#16 ↔ ∀ k, k < 16 → o.getLsbD k = true → m.getLsbD k = true := by
  constructor
  · intro h k hk ho
    have := congrArg (·.getLsbD k) h
    simpa [hk, ho] using this
  · intro h
    apply BitVec.eq_of_getLsbD_eq
    intro k hk
    have := h k hk
    simp [hk]
    exact this
theorem right_want {m o : BitVec 16} {s : Nat → Int} {l : Int} {i : Nat} {on : Bool} (h : rightB m o s l = true) (hi : m.getLsbD i = true) : rightB m (wantB o i on) s l = true := by
  obtain ⟨h1, h2, h3⟩ := rightB_iff.1 h
  refine rightB_iff.2 ⟨h1, andNot_iff.2 fun k hk => ?_, h3⟩
  rw [wantB_bit _ _ _ _ hk]
  split
  · rename_i e; subst e; exact fun _ => hi
  · exact andNot_iff.1 h2 k hk
theorem right_see {m o told : BitVec 16} {s : Nat → Int} {l : Int} {n : Nat} (h : rightB m o s l = true) : rightB m o (seeS told s l n) l = true := by
  obtain ⟨h1, h2, h3⟩ := rightB_iff.1 h
  refine rightB_iff.2 ⟨h1, h2, fun k hk => ?_⟩
  have := h3 k hk
  unfold seeS
  split <;> omega
theorem right_tick {m o : BitVec 16} {s : Nat → Int} {l : Int} {n : Nat} (h : rightB m o s l = true) : rightB m o (tickS s n) l = true := by
  obtain ⟨h1, h2, h3⟩ := rightB_iff.1 h
  refine rightB_iff.2 ⟨h1, h2, fun k hk => ?_⟩
  have := h3 k hk
  unfold tickS dn
  split
  · split <;> omega
  · omega
theorem actN_bit (o : BitVec 16) (s : Nat → Int) (k : Nat) (hk : k < 16) : ∀ n, (actN o s n).getLsbD k = (o.getLsbD k || decide (k < n ∧ s k > 0))
  | 0 => by simp [actN]
  | n + 1 => by
    have ih := actN_bit o s k hk n
    unfold actN
    by_cases e : k = n
    · subst e
      split
      · rename_i h; simp [hk]; right; omega
      · rename_i h; simp [ih]; intro; omega
    · have h2 : (1#16 <<< n).getLsbD k = false := by
        simp [hk]
        omega
      have h3 : (k < n + 1 ∧ s k > 0) ↔ (k < n ∧ s k > 0) := by constructor <;> (intro h; exact ⟨by omega, h.2⟩)
      split
      · simp only [BitVec.getLsbD_or, h2, ih, h3, Bool.or_false]
      · simp only [ih, h3]

set_option maxRecDepth 100000 in
theorem alive_eff : Eff Try.prog 8 [] [] 0 (fun r _ _ => r = .b true) := by
  have hn := new_ok 9#16 5 (by omega)
  have r1 : rightB 9#16 0#16 (fun _ => 0) 5 = true := right_new (by omega)
  have hs := see_ok 9#16 0#16 (fun _ => 0) 5 24#16 r1
  have ha := active_ok 9#16 0#16 (seeS 24#16 (fun _ => 0) 5 16) 5 (right_see r1)
  rw [show actN 0#16 (seeS 24#16 (fun _ => 0) 5 16) 16 &&& 9#16 = 8#16 by decide] at ha
  refine eff_of Try.func8 rfl rfl rfl fun cx e hP => ?_
  refine AWP.runL e tab_ok L8 300 rfl (by first | trivial | (simp [in64] <;> omega)) ?_
  repeat (
    first
      | (refine AWP.askT rfl ?_; (first | (refine Told.t rfl ?_) | (refine Told.f rfl ?_) | (refine Told.t ?_ ?_; (focus (first | assumption | (simp; omega) | (simp [*]; done)); done)) | (refine Told.f ?_ ?_; (focus (first | assumption | (simp; omega) | (simp [*]; done)); done))); refine AWP.runL e tab_ok L8 300 rfl (by first | trivial | (simp [in64] <;> omega)) ?_)
      | (refine AWP.callQ e rfl rfl ?_; (first | refine CallQ.mk (hn) rfl rfl ?_ | refine CallQ.mk (hs) rfl rfl ?_ | refine CallQ.mk (ha) rfl rfl ?_); refine AWP.runL e tab_ok L8 300 rfl (by first | trivial | (simp [in64] <;> omega)) ?_)
      | (refine AWP.eq_agg e tab_ok rfl rfl rfl (.inl ⟨rfl, rfl⟩) ?_ 5 (by omega) rfl ?_ rfl rfl rfl rfl rfl rfl rfl ?_; (focus kernel_rfl); (focus kernel_rfl); refine AWP.runL e tab_ok L8 300 rfl (by first | trivial | (simp [in64] <;> omega)) ?_)
      | (refine AWP.eq_agg e tab_ok rfl rfl rfl (.inr ⟨rfl, rfl⟩) ?_ 5 (by omega) rfl ?_ rfl rfl rfl rfl rfl rfl rfl ?_; (focus kernel_rfl); (focus kernel_rfl); refine AWP.runL e tab_ok L8 300 rfl (by first | trivial | (simp [in64] <;> omega)) ?_)
    )
  refine AWP.ret e tab_ok rfl ?_
  rw [hP]
  all_goals first | rfl | (simp [strip]; done)
end Go.Proofs.Ytdjhmlmdcfgphaa
