import Derived.Test.YthfkoejjpfhcdaaF1
open Go Go.Proofs Go.Sy
namespace Go.Proofs.Ythfkoejjpfhcdaa

/-- A way: whence, whereto, of which set; what waits on it, of how many, whether the newest are best. -/
structure Way where
  fr : Int
  to : Int
  st : Int
  its : List ByteArray
  cap : Int
  best : Bool
abbrev pD (p : Way) : List DV := [.v (.int .i64 p.fr), .v (.int .i64 p.to), .v (.int .i64 p.st), .sl 1 (rowS p.its), .v (.int .i64 p.cap), .v (.bool p.best)]
abbrev pS (p : Way) : List SV := [.i p.fr, .i p.to, .i p.st, slS p.its, .i p.cap, .b p.best]
abbrev slP (l : List Way) : SV := .d (.sl 6 (l.map pD))
abbrev onD (l : List Bool) : List (List DV) := l.map fun b => [.v (.bool b)]
abbrev slB (l : List Bool) : SV := .d (.sl 1 (onD l))
abbrev rtr (ps : List Way) (on : List Bool) : SV := .agg [slP ps, slB on]

/-- Where the first one is. -/
def ix {α : Type} (f : α → Bool) (l : List α) : Int := if l.any f then ((l.findIdx f : Nat) : Int) else -1
theorem ix_hit {α : Type} {f : α → Bool} {l : List α} {i : Nat} (h : i < l.length) (hn : (l.take i).any f = false) (hf : f l[i] = true) : ix f l = i := by
  have h1 : l.any f = true := List.any_eq_true.2 ⟨l[i], List.getElem_mem h, hf⟩
  have h2 : l.findIdx f = i := (List.findIdx_eq h).2 ⟨hf, fun j hj => by
    have := List.any_eq_false.1 hn l[j] (by
      rw [List.mem_iff_getElem]
      exact ⟨j, by simp; omega, by simp⟩)
    simpa using this⟩
  unfold ix
  rw [if_pos h1, h2]
theorem ix_miss {α : Type} {f : α → Bool} {l : List α} (hn : l.any f = false) : ix f l = -1 := by
  unfold ix
  rw [if_neg (by rw [hn]; decide)]
theorem any_snoc {α : Type} {f : α → Bool} {l : List α} {i : Nat} (h : i < l.length) (hn : (l.take i).any f = false) (hf : f l[i] = false) : (l.take (i + 1)).any f = false := by
  rw [List.take_succ_eq_append_getElem h, List.any_append, hn]
  simp [hf]
theorem ix_ge {α : Type} (f : α → Bool) (l : List α) : decide (ix f l ≥ 0) = l.any f := by
  unfold ix
  cases l.any f
  · rfl
  · simp

def long (s : ByteArray) : Bool := decide (8 < s.size)
set_option maxRecDepth 100000 in
theorem long_eff (s : ByteArray) : Eff Try.prog 24 [.s s] [] 0 (fun r _ _ => r = .b (long s)) := by
  refine eff_of Try.func24 rfl rfl rfl fun cx e hP => ?_
  refine AWP.runL e tab_ok L24 300 rfl (by first | trivial | (simp [in64] <;> omega) | (simp only [in64, true_and, and_true]; omega)) ?_
  refine AWP.ret e tab_ok rfl ?_
  rw [hP]
  refine congrArg SV.b ?_
  unfold long
  rw [Bool.eq_iff_iff]
  simp
  omega
def samew (p q : Way) : Bool := q.fr == p.fr && q.to == p.to
set_option maxRecDepth 100000 in
theorem same_eff (p q : Way) : Eff Try.prog 25 [.agg (pS q), .ip (pD p)] [] 0 (fun r _ _ => r = .b (samew p q)) := by
  obtain ⟨a, b, c, d, e, f⟩ := p
  obtain ⟨a', b', c', d', e', f'⟩ := q
  refine eff_of Try.func25 rfl rfl rfl fun cx e hP => ?_
  refine AWP.runL e tab_ok L25 300 rfl (by first | trivial | (simp [in64] <;> omega) | (simp only [in64, true_and, and_true]; omega)) ?_
  repeat' (
    first
      | (refine AWP.ret e tab_ok rfl ?_; rw [hP])
      | (refine AWP.fin e tab_ok rfl ?_; rw [hP])
      | (first
        | (refine AWP.askT rfl ?_; (first | (refine Told.t rfl ?_) | (refine Told.f rfl ?_) | (refine Told.t ?_ ?_; (focus assumption)) | (refine Told.f ?_ ?_; (focus assumption)) | (refine Told.t ?_ ?_; (focus (first | (simp; omega) | (simp [*]; done)); done)) | (refine Told.f ?_ ?_; (focus (first | (simp; omega) | (simp [*]; done)); done)) | (refine Told.both (fun h => ?_) (fun h => ?_) <;> (try simp only [beq_iff_eq, beq_eq_false_iff_ne, ne_eq] at h))))) <;>
        refine AWP.runL e tab_ok L25 300 rfl (by first | trivial | (simp [in64] <;> omega) | (simp only [in64, true_and, and_true]; omega)) ?_
    )
  all_goals (first | rfl | (first | refine congrArg SV.b ?_ | skip); (try rw [Bool.eq_iff_iff]); simp only [Bool.and_eq_true, beq_iff_eq, Bool.false_eq_true, false_iff, samew] at *; omega)
theorem el_at {α : Type} (f : α → List DV) (l : List α) {i : Nat} (h : i < l.length) : (l.map f)[i]? = some (f l[i]) := by simp [h]
theorem cases_b (b : Bool) : b = true ∨ b = false := by cases b <;> simp
set_option maxRecDepth 100000 in
theorem idxS_eff (l : List ByteArray) (hl : l.length ≤ 1000) : Eff Try.prog 31 [slS l, .fn (.func 24) [] []] [] 0 (fun r _ _ => r = .i (ix long l)) := by
  have hsz : (rowS l).length = l.length := List.length_map _
  refine eff_of Try.func31 rfl rfl rfl fun cx e hP => ?_
  refine AWP.runL e tab_ok L31 300 rfl (by first | trivial | (simp [in64] <;> omega) | (simp only [in64, true_and, and_true]; omega)) ?_
  refine AWP.loop (ι := Nat) (fun i => ⟨[(8, .i i), (7, .i (rowS l).length), (1, .fn (.func 24) [] []), (0, slS l)], [], 0⟩) (fun i => i ≤ l.length ∧ (l.take i).any long = false) (fun i => l.length - i) 0 ⟨Nat.zero_le _, rfl⟩ ?_ ?_
  · intro g
    refine AWP.less e ?_ ?_ ?_ ?_ ?_ (g) <;> (repeat' (first | exact True.intro | (refine And.intro ?_ ?_) | rfl | assumption))
  rintro i Φ ⟨hi, hn⟩ next
  refine AWP.runL e tab_ok L31 300 rfl (by first | trivial | (simp [in64] <;> omega) | (simp only [in64, true_and, and_true]; omega)) ?_
  refine AWP.cond2 rfl (fun hlt => ?_) (fun hlt => ?_)
  · have hlt : i < l.length := by have := of_decide_eq_true hlt; omega
    have c1 := long_eff l[i]
    have hel := el_at (fun v => [.v (.string v)]) l hlt
    have hhit := ix_hit (f := long) hlt hn
    have hmiss := any_snoc (f := long) hlt hn
    generalize l[i] = x at *
    refine AWP.runL e tab_ok L31 300 rfl (by first | trivial | (simp [in64] <;> omega) | (simp only [in64, true_and, and_true]; omega)) ?_
    refine AWP.idx e tab_ok rfl rfl rfl rfl i rfl hel ?_
    rcases cases_b (long x) with q | q <;> rw [q] at c1
    · rw [hhit q] at hP
      refine AWP.runL e tab_ok L31 300 rfl (by first | trivial | (simp [in64] <;> omega) | (simp only [in64, true_and, and_true]; omega)) ?_
      repeat (
        first
          | (refine AWP.askT rfl ?_; (first | (refine Told.t rfl ?_) | (refine Told.f rfl ?_) | (refine Told.t ?_ ?_; (focus assumption)) | (refine Told.f ?_ ?_; (focus assumption)) | (refine Told.t ?_ ?_; (focus (first | (simp; omega) | (simp [*]; done)); done)) | (refine Told.f ?_ ?_; (focus (first | (simp; omega) | (simp [*]; done)); done))); refine AWP.runL e tab_ok L31 300 rfl (by first | trivial | (simp [in64] <;> omega) | (simp only [in64, true_and, and_true]; omega)) ?_)
          | (refine AWP.callQ e rfl rfl ?_; (first | refine CallQ.mk (c1) rfl rfl ?_); refine AWP.runL e tab_ok L31 300 rfl (by first | trivial | (simp [in64] <;> omega) | (simp only [in64, true_and, and_true]; omega)) ?_)
          | (refine AWP.eq_agg e tab_ok rfl rfl rfl (.inl ⟨rfl, rfl⟩) ?_ 5 (by omega) rfl ?_ rfl rfl rfl rfl rfl rfl rfl ?_; (focus kernel_rfl); (focus kernel_rfl); refine AWP.runL e tab_ok L31 300 rfl (by first | trivial | (simp [in64] <;> omega) | (simp only [in64, true_and, and_true]; omega)) ?_)
          | (refine AWP.eq_agg e tab_ok rfl rfl rfl (.inr ⟨rfl, rfl⟩) ?_ 5 (by omega) rfl ?_ rfl rfl rfl rfl rfl rfl rfl ?_; (focus kernel_rfl); (focus kernel_rfl); refine AWP.runL e tab_ok L31 300 rfl (by first | trivial | (simp [in64] <;> omega) | (simp only [in64, true_and, and_true]; omega)) ?_)
        )
      refine AWP.ret e tab_ok rfl ?_
      rw [hP]
      all_goals first | rfl | (simp [strip]; done)
    · have nx := next (i + 1) ⟨hlt, hmiss q⟩ (by omega)
      refine AWP.runL e tab_ok L31 300 rfl (by first | trivial | (simp [in64] <;> omega) | (simp only [in64, true_and, and_true]; omega)) ?_
      repeat (
        first
          | (refine AWP.askT rfl ?_; (first | (refine Told.t rfl ?_) | (refine Told.f rfl ?_) | (refine Told.t ?_ ?_; (focus assumption)) | (refine Told.f ?_ ?_; (focus assumption)) | (refine Told.t ?_ ?_; (focus (first | (simp; omega) | (simp [*]; done)); done)) | (refine Told.f ?_ ?_; (focus (first | (simp; omega) | (simp [*]; done)); done))); refine AWP.runL e tab_ok L31 300 rfl (by first | trivial | (simp [in64] <;> omega) | (simp only [in64, true_and, and_true]; omega)) ?_)
          | (refine AWP.callQ e rfl rfl ?_; (first | refine CallQ.mk (c1) rfl rfl ?_); refine AWP.runL e tab_ok L31 300 rfl (by first | trivial | (simp [in64] <;> omega) | (simp only [in64, true_and, and_true]; omega)) ?_)
          | (refine AWP.eq_agg e tab_ok rfl rfl rfl (.inl ⟨rfl, rfl⟩) ?_ 5 (by omega) rfl ?_ rfl rfl rfl rfl rfl rfl rfl ?_; (focus kernel_rfl); (focus kernel_rfl); refine AWP.runL e tab_ok L31 300 rfl (by first | trivial | (simp [in64] <;> omega) | (simp only [in64, true_and, and_true]; omega)) ?_)
          | (refine AWP.eq_agg e tab_ok rfl rfl rfl (.inr ⟨rfl, rfl⟩) ?_ 5 (by omega) rfl ?_ rfl rfl rfl rfl rfl rfl rfl ?_; (focus kernel_rfl); (focus kernel_rfl); refine AWP.runL e tab_ok L31 300 rfl (by first | trivial | (simp [in64] <;> omega) | (simp only [in64, true_and, and_true]; omega)) ?_)
        )
      refine AWP.less e ?_ ?_ ?_ ?_ ?_ (nx) <;> (repeat' (first | exact True.intro | (refine And.intro ?_ ?_) | rfl | assumption))
  · have hlt : ¬ i < l.length := by have := of_decide_eq_false hlt; omega
    obtain rfl : i = l.length := by omega
    rw [List.take_length] at hn
    rw [ix_miss hn] at hP
    refine AWP.runL e tab_ok L31 300 rfl (by first | trivial | (simp [in64] <;> omega) | (simp only [in64, true_and, and_true]; omega)) ?_
    refine AWP.ret e tab_ok rfl ?_
    rw [hP]
    all_goals first | rfl | (simp [strip]; done)
set_option maxRecDepth 100000 in
theorem anyS_eff (l : List ByteArray) (hl : l.length ≤ 1000) : Eff Try.prog 27 [slS l, .fn (.func 24) [] []] [] 0 (fun r _ _ => r = .b (l.any long)) := by
  have c1 := idxS_eff l hl
  have h := ix_ge long l
  refine eff_of Try.func27 rfl rfl rfl fun cx e hP => ?_
  refine AWP.runL e tab_ok L27 300 rfl (by first | trivial | (simp [in64] <;> omega) | (simp only [in64, true_and, and_true]; omega)) ?_
  repeat (
    first
      | (refine AWP.askT rfl ?_; (first | (refine Told.t rfl ?_) | (refine Told.f rfl ?_) | (refine Told.t ?_ ?_; (focus assumption)) | (refine Told.f ?_ ?_; (focus assumption)) | (refine Told.t ?_ ?_; (focus (first | (simp; omega) | (simp [*]; done)); done)) | (refine Told.f ?_ ?_; (focus (first | (simp; omega) | (simp [*]; done)); done))); refine AWP.runL e tab_ok L27 300 rfl (by first | trivial | (simp [in64] <;> omega) | (simp only [in64, true_and, and_true]; omega)) ?_)
      | (refine AWP.callQ e rfl rfl ?_; (first | refine CallQ.mk (c1) rfl rfl ?_); refine AWP.runL e tab_ok L27 300 rfl (by first | trivial | (simp [in64] <;> omega) | (simp only [in64, true_and, and_true]; omega)) ?_)
      | (refine AWP.eq_agg e tab_ok rfl rfl rfl (.inl ⟨rfl, rfl⟩) ?_ 5 (by omega) rfl ?_ rfl rfl rfl rfl rfl rfl rfl ?_; (focus kernel_rfl); (focus kernel_rfl); refine AWP.runL e tab_ok L27 300 rfl (by first | trivial | (simp [in64] <;> omega) | (simp only [in64, true_and, and_true]; omega)) ?_)
      | (refine AWP.eq_agg e tab_ok rfl rfl rfl (.inr ⟨rfl, rfl⟩) ?_ 5 (by omega) rfl ?_ rfl rfl rfl rfl rfl rfl rfl ?_; (focus kernel_rfl); (focus kernel_rfl); refine AWP.runL e tab_ok L27 300 rfl (by first | trivial | (simp [in64] <;> omega) | (simp only [in64, true_and, and_true]; omega)) ?_)
    )
  refine AWP.ret e tab_ok rfl ?_
  rw [hP]
  exact congrArg SV.b h
set_option maxRecDepth 100000 in
theorem idxP_eff (l : List Way) (p : Way) (hl : l.length ≤ 1000) : Eff Try.prog 20 [slP l, .fn (.func 25) [] [.ip (pD p)]] [] 0 (fun r _ _ => r = .i (ix (samew p) l)) := by
  have hsz : (l.map pD).length = l.length := List.length_map _
  refine eff_of Try.func20 rfl rfl rfl fun cx e hP => ?_
  refine AWP.runL e tab_ok L20 300 rfl (by first | trivial | (simp [in64] <;> omega) | (simp only [in64, true_and, and_true]; omega)) ?_
  refine AWP.loop (ι := Nat) (fun i => ⟨[(8, .i i), (7, .i (l.map pD).length), (1, .fn (.func 25) [] [.ip (pD p)]), (0, slP l)], [], 0⟩) (fun i => i ≤ l.length ∧ (l.take i).any (samew p) = false) (fun i => l.length - i) 0 ⟨Nat.zero_le _, rfl⟩ ?_ ?_
  · intro g
    refine AWP.less e ?_ ?_ ?_ ?_ ?_ (g) <;> (repeat' (first | exact True.intro | (refine And.intro ?_ ?_) | rfl | assumption))
  rintro i Φ ⟨hi, hn⟩ next
  refine AWP.runL e tab_ok L20 300 rfl (by first | trivial | (simp [in64] <;> omega) | (simp only [in64, true_and, and_true]; omega)) ?_
  refine AWP.cond2 rfl (fun hlt => ?_) (fun hlt => ?_)
  · have hlt : i < l.length := by have := of_decide_eq_true hlt; omega
    have c1 := same_eff p l[i]
    have hel := el_at pD l hlt
    have hhit := ix_hit (f := samew p) hlt hn
    have hmiss := any_snoc (f := samew p) hlt hn
    generalize l[i] = x at *
    refine AWP.runL e tab_ok L20 300 rfl (by first | trivial | (simp [in64] <;> omega) | (simp only [in64, true_and, and_true]; omega)) ?_
    refine AWP.idx e tab_ok rfl rfl rfl rfl i rfl hel ?_
    rcases cases_b (samew p x) with q | q <;> rw [q] at c1
    · rw [hhit q] at hP
      refine AWP.runL e tab_ok L20 300 rfl (by first | trivial | (simp [in64] <;> omega) | (simp only [in64, true_and, and_true]; omega)) ?_
      repeat (
        first
          | (refine AWP.askT rfl ?_; (first | (refine Told.t rfl ?_) | (refine Told.f rfl ?_) | (refine Told.t ?_ ?_; (focus assumption)) | (refine Told.f ?_ ?_; (focus assumption)) | (refine Told.t ?_ ?_; (focus (first | (simp; omega) | (simp [*]; done)); done)) | (refine Told.f ?_ ?_; (focus (first | (simp; omega) | (simp [*]; done)); done))); refine AWP.runL e tab_ok L20 300 rfl (by first | trivial | (simp [in64] <;> omega) | (simp only [in64, true_and, and_true]; omega)) ?_)
          | (refine AWP.callQ e rfl rfl ?_; (first | refine CallQ.mk (c1) rfl rfl ?_); refine AWP.runL e tab_ok L20 300 rfl (by first | trivial | (simp [in64] <;> omega) | (simp only [in64, true_and, and_true]; omega)) ?_)
          | (refine AWP.eq_agg e tab_ok rfl rfl rfl (.inl ⟨rfl, rfl⟩) ?_ 5 (by omega) rfl ?_ rfl rfl rfl rfl rfl rfl rfl ?_; (focus kernel_rfl); (focus kernel_rfl); refine AWP.runL e tab_ok L20 300 rfl (by first | trivial | (simp [in64] <;> omega) | (simp only [in64, true_and, and_true]; omega)) ?_)
          | (refine AWP.eq_agg e tab_ok rfl rfl rfl (.inr ⟨rfl, rfl⟩) ?_ 5 (by omega) rfl ?_ rfl rfl rfl rfl rfl rfl rfl ?_; (focus kernel_rfl); (focus kernel_rfl); refine AWP.runL e tab_ok L20 300 rfl (by first | trivial | (simp [in64] <;> omega) | (simp only [in64, true_and, and_true]; omega)) ?_)
        )
      refine AWP.ret e tab_ok rfl ?_
      rw [hP]
      all_goals first | rfl | (simp [strip]; done)
    · have nx := next (i + 1) ⟨hlt, hmiss q⟩ (by omega)
      refine AWP.runL e tab_ok L20 300 rfl (by first | trivial | (simp [in64] <;> omega) | (simp only [in64, true_and, and_true]; omega)) ?_
      repeat (
        first
          | (refine AWP.askT rfl ?_; (first | (refine Told.t rfl ?_) | (refine Told.f rfl ?_) | (refine Told.t ?_ ?_; (focus assumption)) | (refine Told.f ?_ ?_; (focus assumption)) | (refine Told.t ?_ ?_; (focus (first | (simp; omega) | (simp [*]; done)); done)) | (refine Told.f ?_ ?_; (focus (first | (simp; omega) | (simp [*]; done)); done))); refine AWP.runL e tab_ok L20 300 rfl (by first | trivial | (simp [in64] <;> omega) | (simp only [in64, true_and, and_true]; omega)) ?_)
          | (refine AWP.callQ e rfl rfl ?_; (first | refine CallQ.mk (c1) rfl rfl ?_); refine AWP.runL e tab_ok L20 300 rfl (by first | trivial | (simp [in64] <;> omega) | (simp only [in64, true_and, and_true]; omega)) ?_)
          | (refine AWP.eq_agg e tab_ok rfl rfl rfl (.inl ⟨rfl, rfl⟩) ?_ 5 (by omega) rfl ?_ rfl rfl rfl rfl rfl rfl rfl ?_; (focus kernel_rfl); (focus kernel_rfl); refine AWP.runL e tab_ok L20 300 rfl (by first | trivial | (simp [in64] <;> omega) | (simp only [in64, true_and, and_true]; omega)) ?_)
          | (refine AWP.eq_agg e tab_ok rfl rfl rfl (.inr ⟨rfl, rfl⟩) ?_ 5 (by omega) rfl ?_ rfl rfl rfl rfl rfl rfl rfl ?_; (focus kernel_rfl); (focus kernel_rfl); refine AWP.runL e tab_ok L20 300 rfl (by first | trivial | (simp [in64] <;> omega) | (simp only [in64, true_and, and_true]; omega)) ?_)
        )
      refine AWP.less e ?_ ?_ ?_ ?_ ?_ (nx) <;> (repeat' (first | exact True.intro | (refine And.intro ?_ ?_) | rfl | assumption))
  · have hlt : ¬ i < l.length := by have := of_decide_eq_false hlt; omega
    obtain rfl : i = l.length := by omega
    rw [List.take_length] at hn
    rw [ix_miss hn] at hP
    refine AWP.runL e tab_ok L20 300 rfl (by first | trivial | (simp [in64] <;> omega) | (simp only [in64, true_and, and_true]; omega)) ?_
    refine AWP.ret e tab_ok rfl ?_
    rw [hP]
    all_goals first | rfl | (simp [strip]; done)
set_option maxRecDepth 100000 in
theorem anyP_eff (l : List Way) (p : Way) (hl : l.length ≤ 1000) : Eff Try.prog 28 [slP l, .fn (.func 25) [] [.ip (pD p)]] [] 0 (fun r _ _ => r = .b (l.any (samew p))) := by
  have c1 := idxP_eff l p hl
  have h := ix_ge (samew p) l
  refine eff_of Try.func28 rfl rfl rfl fun cx e hP => ?_
  refine AWP.runL e tab_ok L28 300 rfl (by first | trivial | (simp [in64] <;> omega) | (simp only [in64, true_and, and_true]; omega)) ?_
  repeat (
    first
      | (refine AWP.askT rfl ?_; (first | (refine Told.t rfl ?_) | (refine Told.f rfl ?_) | (refine Told.t ?_ ?_; (focus assumption)) | (refine Told.f ?_ ?_; (focus assumption)) | (refine Told.t ?_ ?_; (focus (first | (simp; omega) | (simp [*]; done)); done)) | (refine Told.f ?_ ?_; (focus (first | (simp; omega) | (simp [*]; done)); done))); refine AWP.runL e tab_ok L28 300 rfl (by first | trivial | (simp [in64] <;> omega) | (simp only [in64, true_and, and_true]; omega)) ?_)
      | (refine AWP.callQ e rfl rfl ?_; (first | refine CallQ.mk (c1) rfl rfl ?_); refine AWP.runL e tab_ok L28 300 rfl (by first | trivial | (simp [in64] <;> omega) | (simp only [in64, true_and, and_true]; omega)) ?_)
      | (refine AWP.eq_agg e tab_ok rfl rfl rfl (.inl ⟨rfl, rfl⟩) ?_ 5 (by omega) rfl ?_ rfl rfl rfl rfl rfl rfl rfl ?_; (focus kernel_rfl); (focus kernel_rfl); refine AWP.runL e tab_ok L28 300 rfl (by first | trivial | (simp [in64] <;> omega) | (simp only [in64, true_and, and_true]; omega)) ?_)
      | (refine AWP.eq_agg e tab_ok rfl rfl rfl (.inr ⟨rfl, rfl⟩) ?_ 5 (by omega) rfl ?_ rfl rfl rfl rfl rfl rfl rfl ?_; (focus kernel_rfl); (focus kernel_rfl); refine AWP.runL e tab_ok L28 300 rfl (by first | trivial | (simp [in64] <;> omega) | (simp only [in64, true_and, and_true]; omega)) ?_)
    )
  refine AWP.ret e tab_ok rfl ?_
  rw [hP]
  exact congrArg SV.b h
end Go.Proofs.Ythfkoejjpfhcdaa
