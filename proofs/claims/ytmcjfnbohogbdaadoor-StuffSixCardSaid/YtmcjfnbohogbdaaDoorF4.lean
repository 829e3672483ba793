import Derived.Test.YtmcjfnbohogbdaaDoorF3
open Go Go.Proofs Go.Sy Go.Stuff
namespace Go.Proofs.YtmcjfnbohogbdaaDoor

theorem alive_row : stuffR [49, 49, 49, 49, 49, 48, 48, 48, 48, 48] = .tup [.s (strL [49, 49, 49, 49, 49, 48, 48, 48, 48, 48, 49, 48]), .i 0] := by
  have h : stuffL x0 [49, 49, 49, 49, 49, 48, 48, 48, 48, 48] = [49, 49, 49, 49, 49, 48, 48, 48, 48, 48, 49, 48] := by decide
  unfold stuffR
  rw [h]
  rfl
set_option maxRecDepth 100000 in
theorem alive_eff : Eff Tryd.prog 12 [] [] 0 (fun r _ _ => r = .b true) := by
  have c1 := stuff_ok [49, 49, 49, 49, 49, 48, 48, 48, 48, 48] (by decide)
  rw [alive_row] at c1
  have g : ((strL [49, 49, 49, 49, 49, 48, 48, 48, 48, 48, 49, 48]).toList == (ByteArray.mk #[49, 49, 49, 49, 49, 48, 48, 48, 48, 48, 49, 48]).toList) = true := (beq_str [49, 49, 49, 49, 49, 48, 48, 48, 48, 48, 49, 48] [49, 49, 49, 49, 49, 48, 48, 48, 48, 48, 49, 48]).trans (by decide)
  refine eff_of Tryd.func12 rfl rfl rfl fun cx e hP => ?_
  refine AWP.runL e tab_ok L12 300 rfl (by first | trivial | (simp [in64] <;> omega) | (simp only [in64, true_and, and_true]; omega)) ?_
  repeat (
    first
      | (refine AWP.askT rfl ?_; (first | (refine Told.t rfl ?_) | (refine Told.f rfl ?_) | (refine Told.t ?_ ?_; (focus assumption)) | (refine Told.f ?_ ?_; (focus assumption)) | (refine Told.t ?_ ?_; (focus (first | (simp; omega) | (simp [*]; done)); done)) | (refine Told.f ?_ ?_; (focus (first | (simp; omega) | (simp [*]; done)); done))); refine AWP.runL e tab_ok L12 300 rfl (by first | trivial | (simp [in64] <;> omega) | (simp only [in64, true_and, and_true]; omega)) ?_)
      | (refine AWP.callQ e rfl rfl ?_; (first | refine CallQ.mk (c1) rfl rfl ?_); refine AWP.runL e tab_ok L12 300 rfl (by first | trivial | (simp [in64] <;> omega) | (simp only [in64, true_and, and_true]; omega)) ?_)
      | (refine AWP.eq_agg e tab_ok rfl rfl rfl (.inl ⟨rfl, rfl⟩) ?_ 5 (by omega) rfl ?_ rfl rfl rfl rfl rfl rfl rfl ?_; (focus kernel_rfl); (focus kernel_rfl); refine AWP.runL e tab_ok L12 300 rfl (by first | trivial | (simp [in64] <;> omega) | (simp only [in64, true_and, and_true]; omega)) ?_)
      | (refine AWP.eq_agg e tab_ok rfl rfl rfl (.inr ⟨rfl, rfl⟩) ?_ 5 (by omega) rfl ?_ rfl rfl rfl rfl rfl rfl rfl ?_; (focus kernel_rfl); (focus kernel_rfl); refine AWP.runL e tab_ok L12 300 rfl (by first | trivial | (simp [in64] <;> omega) | (simp only [in64, true_and, and_true]; omega)) ?_)
    )
  refine AWP.ret e tab_ok rfl ?_
  rw [hP]
  exact congrArg SV.b g

/-! ### Unstuff -/
def unstR (l : List UInt8) : SV := match unst x0 l with
  | none => .tup [.s ⟨#[]⟩, .i 10]
  | some (o, x) => if x.2 = 5 then .tup [.s ⟨#[]⟩, .i 3] else .tup [.s (strL o), .i 0]
theorem unst_snoc {l : List UInt8} {i : Nat} (h : i < l.length) {o : List UInt8} {x : X} (hu : unst x0 (l.take i) = some (o, x)) : unst x0 (l.take (i + 1)) = if kind x l[i] = 3 then none else some (if kind x l[i] = 1 then o ++ [l[i]] else o, sst x l[i]) := by
  rw [List.take_succ_eq_append_getElem h, unst_app, hu]
  simp only [Option.bind_some, unst]
  split
  · rfl
  · simp only [Option.map_some]
    split <;> simp
theorem unst_none {l : List UInt8} {i : Nat} (h : unst x0 (l.take i) = none) : unst x0 l = none := by
  have := unst_app (l.take i) x0 (l.drop i)
  rw [List.take_append_drop, h] at this
  exact this
theorem unst_len (l : List UInt8) : ∀ (x : X) (p : List UInt8 × X), unst x l = some p → p.1.length ≤ l.length := by
  induction l with
  | nil => intro x p h; simp only [unst, Option.some.injEq] at h; rw [← h]; exact Nat.le_refl _
  | cons c l ih =>
    intro x p h
    simp only [unst] at h
    split at h
    · cases h
    · simp only [Option.map_eq_some_iff] at h
      obtain ⟨q, h1, h2⟩ := h
      have := ih _ q h1
      rw [← h2]
      show (if kind x c = 1 then c :: q.1 else q.1).length ≤ _
      split <;> simp only [List.length_cons] <;> omega
set_option maxRecDepth 100000 in
theorem unst_bad (l : List UInt8) (hw : wellB l = false) : Eff Tryd.prog 15 [.s (strL l)] [] 0 (fun r _ _ => r = .tup [.s ⟨#[]⟩, .i 1]) := by
  have c1 := right_eff l
  rw [hw] at c1
  refine eff_of Tryd.func15 rfl rfl rfl fun cx e hP => ?_
  refine AWP.runL e tab_ok L15 300 rfl (by first | trivial | (simp [in64] <;> omega) | (simp only [in64, true_and, and_true]; omega)) ?_
  repeat (
    first
      | (refine AWP.askT rfl ?_; (first | (refine Told.t rfl ?_) | (refine Told.f rfl ?_) | (refine Told.t ?_ ?_; (focus assumption)) | (refine Told.f ?_ ?_; (focus assumption)) | (refine Told.t ?_ ?_; (focus (first | (simp; omega) | (simp [*]; done)); done)) | (refine Told.f ?_ ?_; (focus (first | (simp; omega) | (simp [*]; done)); done))); refine AWP.runL e tab_ok L15 300 rfl (by first | trivial | (simp [in64] <;> omega) | (simp only [in64, true_and, and_true]; omega)) ?_)
      | (refine AWP.callQ e rfl rfl ?_; (first | refine CallQ.mk (c1) rfl rfl ?_); refine AWP.runL e tab_ok L15 300 rfl (by first | trivial | (simp [in64] <;> omega) | (simp only [in64, true_and, and_true]; omega)) ?_)
      | (refine AWP.eq_agg e tab_ok rfl rfl rfl (.inl ⟨rfl, rfl⟩) ?_ 5 (by omega) rfl ?_ rfl rfl rfl rfl rfl rfl rfl ?_; (focus kernel_rfl); (focus kernel_rfl); refine AWP.runL e tab_ok L15 300 rfl (by first | trivial | (simp [in64] <;> omega) | (simp only [in64, true_and, and_true]; omega)) ?_)
      | (refine AWP.eq_agg e tab_ok rfl rfl rfl (.inr ⟨rfl, rfl⟩) ?_ 5 (by omega) rfl ?_ rfl rfl rfl rfl rfl rfl rfl ?_; (focus kernel_rfl); (focus kernel_rfl); refine AWP.runL e tab_ok L15 300 rfl (by first | trivial | (simp [in64] <;> omega) | (simp only [in64, true_and, and_true]; omega)) ?_)
    )
  refine AWP.ret e tab_ok rfl ?_
  rw [hP]
  all_goals first | rfl | (simp [strip]; done)
set_option maxRecDepth 100000 in
set_option maxHeartbeats 2000000 in
theorem unst_ok (l : List UInt8) (hw : wellB l = true) : Eff Tryd.prog 15 [.s (strL l)] [] 0 (fun r _ _ => r = unstR l) := by
  have c1 := right_eff l
  rw [hw] at c1
  have hl := well_len hw
  have hsz : (strL l).size = l.length := strL_size l
  refine eff_of Tryd.func15 rfl rfl rfl fun cx e hP => ?_
  refine AWP.runL e tab_ok L15 300 rfl (by first | trivial | (simp [in64] <;> omega) | (simp only [in64, true_and, and_true]; omega)) ?_
  repeat (
    first
      | (refine AWP.askT rfl ?_; (first | (refine Told.t rfl ?_) | (refine Told.f rfl ?_) | (refine Told.t ?_ ?_; (focus assumption)) | (refine Told.f ?_ ?_; (focus assumption)) | (refine Told.t ?_ ?_; (focus (first | (simp; omega) | (simp [*]; done)); done)) | (refine Told.f ?_ ?_; (focus (first | (simp; omega) | (simp [*]; done)); done))); refine AWP.runL e tab_ok L15 300 rfl (by first | trivial | (simp [in64] <;> omega) | (simp only [in64, true_and, and_true]; omega)) ?_)
      | (refine AWP.callQ e rfl rfl ?_; (first | refine CallQ.mk (c1) rfl rfl ?_); refine AWP.runL e tab_ok L15 300 rfl (by first | trivial | (simp [in64] <;> omega) | (simp only [in64, true_and, and_true]; omega)) ?_)
      | (refine AWP.eq_agg e tab_ok rfl rfl rfl (.inl ⟨rfl, rfl⟩) ?_ 5 (by omega) rfl ?_ rfl rfl rfl rfl rfl rfl rfl ?_; (focus kernel_rfl); (focus kernel_rfl); refine AWP.runL e tab_ok L15 300 rfl (by first | trivial | (simp [in64] <;> omega) | (simp only [in64, true_and, and_true]; omega)) ?_)
      | (refine AWP.eq_agg e tab_ok rfl rfl rfl (.inr ⟨rfl, rfl⟩) ?_ 5 (by omega) rfl ?_ rfl rfl rfl rfl rfl rfl rfl ?_; (focus kernel_rfl); (focus kernel_rfl); refine AWP.runL e tab_ok L15 300 rfl (by first | trivial | (simp [in64] <;> omega) | (simp only [in64, true_and, and_true]; omega)) ?_)
    )
  refine AWP.nil_own (t := 6) rfl 5 1 ?_
  rw [hsz]
  refine AWP.loop (ι := (Nat × (List UInt8 × X)) × Nat) (fun x => ⟨[(17, .i x.1.1), (16, .i l.length), (6, .own 1 1 0 x.1.2.1.length x.2), (5, .fn (.func 21) [.ptr 0 0] []), (4, .ptr 0 0), (0, .s (strL l))], [(0, .box [U x.1.2.2.1, .i x.1.2.2.2]), (1, .row 5 false 1 (x.1.2.1.map u8S) x.2)], 2⟩) (fun x => x.1.1 ≤ l.length ∧ unst x0 (l.take x.1.1) = some x.1.2) (fun x => l.length - x.1.1) ((0, ([], x0)), 0) ⟨Nat.zero_le _, rfl⟩ ?_ ?_
  · intro g
    refine AWP.less e ?_ ?_ ?_ ?_ ?_ (g) <;> (repeat' (first | exact True.intro | (refine And.intro ?_ ?_) | rfl | assumption))
    exact u8_ids _ 2
  rintro ⟨⟨i, ⟨o, x⟩⟩, C⟩ Φ ⟨hi, hu⟩ next
  dsimp only at hi hu next ⊢
  have hx5 : x.2 ≤ 5 := unst_le _ _ (by decide) _ hu
  have hol : o.length ≤ 4000 := by have := unst_len _ _ _ hu; simp only [List.length_take] at this; omega
  refine AWP.runL e tab_ok L15 300 rfl (by first | trivial | (simp [in64] <;> omega) | (simp only [in64, true_and, and_true]; omega)) ?_
  refine AWP.cond2 rfl (fun hlt => ?_) (fun hlt => ?_)
  · have hlt : i < l.length := by have := of_decide_eq_true hlt; omega
    have nx := fun (p : List UInt8 × X) C2 hp => next ((i + 1, p), C2) ⟨hlt, hp⟩ (by show l.length - (i + 1) < l.length - i; omega)
    dsimp only at nx
    have hb : byteAt (strL l) i = ((l[i]).toNat : Int) := by
      unfold byteAt
      rw [strL_data, Int.toNat_natCast, List.getD_eq_getElem?_getD, List.getElem?_eq_getElem hlt]
      rfl
    have hu := unst_snoc hlt hu
    have hno := fun h => unst_none (l := l) (i := i + 1) h
    clear next
    generalize l[i] = c at *
    obtain ⟨b, n⟩ := x
    have hx5 : n ≤ 5 := hx5
    have h1 := u_eq c b
    rcases cases_b (c == b) with g | g <;> rw [g] at h1
    · obtain rfl : c = b := by simpa using g
      by_cases h5 : n = 5
      · subst h5
        have e1 : kind (c, 5) c = 3 := by unfold kind; rw [if_pos rfl, if_pos rfl]
        rw [e1, if_pos rfl] at hu
        have hn := hno hu
        have hR : unstR l = .tup [.s ⟨#[]⟩, .i 10] := by unfold unstR; rw [hn]
        rw [hR] at hP
        refine AWP.runL e tab_ok L15 300 rfl (by first | trivial | (simp [] <;> omega) | (simp only [in64, true_and, and_true]; omega)) ?_
        refine AWP.eqT 23 (U c) rfl (congrArg (fun z => SV.d (.v (.int .u8 z))) hb) ?_
        refine AWP.enter e rfl Tryd.func21 rfl rfl rfl rfl fun cx' e' hP' => ?_
        refine AWP.runL e' tab_ok L21 300 rfl (by first | trivial | (simp [in64] <;> omega) | (simp only [in64, true_and, and_true]; omega)) ?_
        repeat (
          first
            | (refine AWP.askT rfl ?_; (first | (refine Told.t rfl ?_) | (refine Told.f rfl ?_) | (refine Told.t ?_ ?_; (focus assumption)) | (refine Told.f ?_ ?_; (focus assumption)) | (refine Told.t ?_ ?_; (focus (first | (simp; omega) | (simp [*]; done)); done)) | (refine Told.f ?_ ?_; (focus (first | (simp; omega) | (simp [*]; done)); done))); refine AWP.runL e' tab_ok L21 300 rfl (by first | trivial | (simp [in64] <;> omega) | (simp only [in64, true_and, and_true]; omega)) ?_)
            | (refine AWP.eq_agg e' tab_ok rfl rfl rfl (.inl ⟨rfl, rfl⟩) ?_ 5 (by omega) rfl ?_ rfl rfl rfl rfl rfl rfl rfl ?_; (focus kernel_rfl); (focus kernel_rfl); refine AWP.runL e' tab_ok L21 300 rfl (by first | trivial | (simp [in64] <;> omega) | (simp only [in64, true_and, and_true]; omega)) ?_)
            | (refine AWP.eq_agg e' tab_ok rfl rfl rfl (.inr ⟨rfl, rfl⟩) ?_ 5 (by omega) rfl ?_ rfl rfl rfl rfl rfl rfl rfl ?_; (focus kernel_rfl); (focus kernel_rfl); refine AWP.runL e' tab_ok L21 300 rfl (by first | trivial | (simp [in64] <;> omega) | (simp only [in64, true_and, and_true]; omega)) ?_)
          )
        (first | (refine AWP.ret e' tab_ok rfl ?_) | (refine AWP.fin e' tab_ok rfl ?_)); rw [hP']; show AWP cx _ _
        refine AWP.runL e tab_ok L15 300 rfl (by first | trivial | (simp [in64] <;> omega) | (simp only [in64, true_and, and_true]; omega)) ?_
        repeat (
          first
            | (refine AWP.askT rfl ?_; (first | (refine Told.t rfl ?_) | (refine Told.f rfl ?_) | (refine Told.t ?_ ?_; (focus assumption)) | (refine Told.f ?_ ?_; (focus assumption)) | (refine Told.t ?_ ?_; (focus (first | (simp; omega) | (simp [*]; done)); done)) | (refine Told.f ?_ ?_; (focus (first | (simp; omega) | (simp [*]; done)); done))); refine AWP.runL e tab_ok L15 300 rfl (by first | trivial | (simp [in64] <;> omega) | (simp only [in64, true_and, and_true]; omega)) ?_)
            | (refine AWP.eq_agg e tab_ok rfl rfl rfl (.inl ⟨rfl, rfl⟩) ?_ 5 (by omega) rfl ?_ rfl rfl rfl rfl rfl rfl rfl ?_; (focus kernel_rfl); (focus kernel_rfl); refine AWP.runL e tab_ok L15 300 rfl (by first | trivial | (simp [in64] <;> omega) | (simp only [in64, true_and, and_true]; omega)) ?_)
            | (refine AWP.eq_agg e tab_ok rfl rfl rfl (.inr ⟨rfl, rfl⟩) ?_ 5 (by omega) rfl ?_ rfl rfl rfl rfl rfl rfl rfl ?_; (focus kernel_rfl); (focus kernel_rfl); refine AWP.runL e tab_ok L15 300 rfl (by first | trivial | (simp [in64] <;> omega) | (simp only [in64, true_and, and_true]; omega)) ?_)
          )
        refine AWP.ret e tab_ok rfl ?_
        rw [hP]
        all_goals first | rfl | (simp [strip]; done)
      · have e1 : kind (c, n) c = 1 := kind_data c (by show n ≤ 4; omega)
        have e2 : sst (c, n) c = (c, n + 1) := by unfold sst; rw [if_neg h5, if_pos rfl]
        rw [e1, e2, if_neg (by decide), if_pos rfl] at hu
        refine AWP.runL e tab_ok L15 300 rfl (by first | trivial | (simp [] <;> omega) | (simp only [in64, true_and, and_true]; omega)) ?_
        refine AWP.eqT 23 (U c) rfl (congrArg (fun z => SV.d (.v (.int .u8 z))) hb) ?_
        refine AWP.enter e rfl Tryd.func21 rfl rfl rfl rfl fun cx' e' hP' => ?_
        refine AWP.runL e' tab_ok L21 300 rfl (by first | trivial | (simp [in64] <;> omega) | (simp only [in64, true_and, and_true]; omega)) ?_
        repeat (
          first
            | (refine AWP.askT rfl ?_; (first | (refine Told.t rfl ?_) | (refine Told.f rfl ?_) | (refine Told.t ?_ ?_; (focus assumption)) | (refine Told.f ?_ ?_; (focus assumption)) | (refine Told.t ?_ ?_; (focus (first | (simp; omega) | (simp [*]; done)); done)) | (refine Told.f ?_ ?_; (focus (first | (simp; omega) | (simp [*]; done)); done))); refine AWP.runL e' tab_ok L21 300 rfl (by first | trivial | (simp [in64] <;> omega) | (simp only [in64, true_and, and_true]; omega)) ?_)
            | (refine AWP.eq_agg e' tab_ok rfl rfl rfl (.inl ⟨rfl, rfl⟩) ?_ 5 (by omega) rfl ?_ rfl rfl rfl rfl rfl rfl rfl ?_; (focus kernel_rfl); (focus kernel_rfl); refine AWP.runL e' tab_ok L21 300 rfl (by first | trivial | (simp [in64] <;> omega) | (simp only [in64, true_and, and_true]; omega)) ?_)
            | (refine AWP.eq_agg e' tab_ok rfl rfl rfl (.inr ⟨rfl, rfl⟩) ?_ 5 (by omega) rfl ?_ rfl rfl rfl rfl rfl rfl rfl ?_; (focus kernel_rfl); (focus kernel_rfl); refine AWP.runL e' tab_ok L21 300 rfl (by first | trivial | (simp [in64] <;> omega) | (simp only [in64, true_and, and_true]; omega)) ?_)
          )
        (first | (refine AWP.ret e' tab_ok rfl ?_) | (refine AWP.fin e' tab_ok rfl ?_)); rw [hP']; show AWP cx _ _
        refine AWP.runL e tab_ok L15 300 rfl (by first | trivial | (simp [in64] <;> omega) | (simp only [in64, true_and, and_true]; omega)) ?_
        repeat (
          first
            | (refine AWP.askT rfl ?_; (first | (refine Told.t rfl ?_) | (refine Told.f rfl ?_) | (refine Told.t ?_ ?_; (focus assumption)) | (refine Told.f ?_ ?_; (focus assumption)) | (refine Told.t ?_ ?_; (focus (first | (simp; omega) | (simp [*]; done)); done)) | (refine Told.f ?_ ?_; (focus (first | (simp; omega) | (simp [*]; done)); done))); refine AWP.runL e tab_ok L15 300 rfl (by first | trivial | (simp [] <;> omega) | (simp only [in64, true_and, and_true]; omega)) ?_)
            | (refine AWP.eq_agg e tab_ok rfl rfl rfl (.inl ⟨rfl, rfl⟩) ?_ 5 (by omega) rfl ?_ rfl rfl rfl rfl rfl rfl rfl ?_; (focus kernel_rfl); (focus kernel_rfl); refine AWP.runL e tab_ok L15 300 rfl (by first | trivial | (simp [in64] <;> omega) | (simp only [in64, true_and, and_true]; omega)) ?_)
            | (refine AWP.eq_agg e tab_ok rfl rfl rfl (.inr ⟨rfl, rfl⟩) ?_ 5 (by omega) rfl ?_ rfl rfl rfl rfl rfl rfl rfl ?_; (focus kernel_rfl); (focus kernel_rfl); refine AWP.runL e tab_ok L15 300 rfl (by first | trivial | (simp [in64] <;> omega) | (simp only [in64, true_and, and_true]; omega)) ?_)
          )
        refine AWP.append1 u8S o c e tab_ok rfl rfl rfl rfl rfl rfl rfl rfl rfl rfl rfl rfl (congrArg (fun z => [SV.d (.v (.int .u8 z))]) hb) rfl (by show (_ + 1) * 1 ≤ _; omega) (by omega) fun C2 => ?_
        refine AWP.runL e tab_ok L15 300 rfl (by first | trivial | (simp [in64] <;> omega) | (simp only [in64, true_and, and_true]; omega)) ?_
        refine AWP.lessR e [(1, 3)] ?_ ?_ ?_ ?_ ?_ ?_ ((nx _ C2 hu)) <;> (repeat' (first | exact True.intro | (refine And.intro ?_ ?_) | rfl | assumption))
        exact u8_ids _ 0
    · have gb : ¬ c = b := by simpa using g
      by_cases h5 : n = 5
      · subst h5
        have e1 : kind (b, 5) c = 2 := by unfold kind; rw [if_pos rfl, if_neg gb]
        have e2 : sst (b, 5) c = (c, 1) := by unfold sst; rw [if_pos rfl, if_neg gb]
        rw [e1, e2, if_neg (by decide), if_neg (by decide)] at hu
        refine AWP.runL e tab_ok L15 300 rfl (by first | trivial | (simp [] <;> omega) | (simp only [in64, true_and, and_true]; omega)) ?_
        refine AWP.eqT 23 (U c) rfl (congrArg (fun z => SV.d (.v (.int .u8 z))) hb) ?_
        refine AWP.enter e rfl Tryd.func21 rfl rfl rfl rfl fun cx' e' hP' => ?_
        refine AWP.runL e' tab_ok L21 300 rfl (by first | trivial | (simp [in64] <;> omega) | (simp only [in64, true_and, and_true]; omega)) ?_
        repeat (
          first
            | (refine AWP.askT rfl ?_; (first | (refine Told.t rfl ?_) | (refine Told.f rfl ?_) | (refine Told.t ?_ ?_; (focus assumption)) | (refine Told.f ?_ ?_; (focus assumption)) | (refine Told.t ?_ ?_; (focus (first | (simp; omega) | (simp [*]; done)); done)) | (refine Told.f ?_ ?_; (focus (first | (simp; omega) | (simp [*]; done)); done))); refine AWP.runL e' tab_ok L21 300 rfl (by first | trivial | (simp [in64] <;> omega) | (simp only [in64, true_and, and_true]; omega)) ?_)
            | (refine AWP.eq_agg e' tab_ok rfl rfl rfl (.inl ⟨rfl, rfl⟩) ?_ 5 (by omega) rfl ?_ rfl rfl rfl rfl rfl rfl rfl ?_; (focus kernel_rfl); (focus kernel_rfl); refine AWP.runL e' tab_ok L21 300 rfl (by first | trivial | (simp [in64] <;> omega) | (simp only [in64, true_and, and_true]; omega)) ?_)
            | (refine AWP.eq_agg e' tab_ok rfl rfl rfl (.inr ⟨rfl, rfl⟩) ?_ 5 (by omega) rfl ?_ rfl rfl rfl rfl rfl rfl rfl ?_; (focus kernel_rfl); (focus kernel_rfl); refine AWP.runL e' tab_ok L21 300 rfl (by first | trivial | (simp [in64] <;> omega) | (simp only [in64, true_and, and_true]; omega)) ?_)
          )
        (first | (refine AWP.ret e' tab_ok rfl ?_) | (refine AWP.fin e' tab_ok rfl ?_)); rw [hP']; show AWP cx _ _
        refine AWP.runL e tab_ok L15 300 rfl (by first | trivial | (simp [in64] <;> omega) | (simp only [in64, true_and, and_true]; omega)) ?_
        repeat (
          first
            | (refine AWP.askT rfl ?_; (first | (refine Told.t rfl ?_) | (refine Told.f rfl ?_) | (refine Told.t ?_ ?_; (focus assumption)) | (refine Told.f ?_ ?_; (focus assumption)) | (refine Told.t ?_ ?_; (focus (first | (simp; omega) | (simp [*]; done)); done)) | (refine Told.f ?_ ?_; (focus (first | (simp; omega) | (simp [*]; done)); done))); refine AWP.runL e tab_ok L15 300 rfl (by first | trivial | (simp [in64] <;> omega) | (simp only [in64, true_and, and_true]; omega)) ?_)
            | (refine AWP.eq_agg e tab_ok rfl rfl rfl (.inl ⟨rfl, rfl⟩) ?_ 5 (by omega) rfl ?_ rfl rfl rfl rfl rfl rfl rfl ?_; (focus kernel_rfl); (focus kernel_rfl); refine AWP.runL e tab_ok L15 300 rfl (by first | trivial | (simp [in64] <;> omega) | (simp only [in64, true_and, and_true]; omega)) ?_)
            | (refine AWP.eq_agg e tab_ok rfl rfl rfl (.inr ⟨rfl, rfl⟩) ?_ 5 (by omega) rfl ?_ rfl rfl rfl rfl rfl rfl rfl ?_; (focus kernel_rfl); (focus kernel_rfl); refine AWP.runL e tab_ok L15 300 rfl (by first | trivial | (simp [in64] <;> omega) | (simp only [in64, true_and, and_true]; omega)) ?_)
          )
        refine AWP.less e ?_ ?_ ?_ ?_ ?_ ((nx _ C hu)) <;> (repeat' (first | exact True.intro | (refine And.intro ?_ ?_) | rfl | assumption))
        exact u8_ids _ 2
      · have e1 : kind (b, n) c = 1 := kind_data c (by show n ≤ 4; omega)
        have e2 : sst (b, n) c = (c, 1) := by unfold sst; rw [if_neg h5, if_neg gb]
        rw [e1, e2, if_neg (by decide), if_pos rfl] at hu
        refine AWP.runL e tab_ok L15 300 rfl (by first | trivial | (simp [] <;> omega) | (simp only [in64, true_and, and_true]; omega)) ?_
        refine AWP.eqT 23 (U c) rfl (congrArg (fun z => SV.d (.v (.int .u8 z))) hb) ?_
        refine AWP.enter e rfl Tryd.func21 rfl rfl rfl rfl fun cx' e' hP' => ?_
        refine AWP.runL e' tab_ok L21 300 rfl (by first | trivial | (simp [in64] <;> omega) | (simp only [in64, true_and, and_true]; omega)) ?_
        repeat (
          first
            | (refine AWP.askT rfl ?_; (first | (refine Told.t rfl ?_) | (refine Told.f rfl ?_) | (refine Told.t ?_ ?_; (focus assumption)) | (refine Told.f ?_ ?_; (focus assumption)) | (refine Told.t ?_ ?_; (focus (first | (simp; omega) | (simp [*]; done)); done)) | (refine Told.f ?_ ?_; (focus (first | (simp; omega) | (simp [*]; done)); done))); refine AWP.runL e' tab_ok L21 300 rfl (by first | trivial | (simp [in64] <;> omega) | (simp only [in64, true_and, and_true]; omega)) ?_)
            | (refine AWP.eq_agg e' tab_ok rfl rfl rfl (.inl ⟨rfl, rfl⟩) ?_ 5 (by omega) rfl ?_ rfl rfl rfl rfl rfl rfl rfl ?_; (focus kernel_rfl); (focus kernel_rfl); refine AWP.runL e' tab_ok L21 300 rfl (by first | trivial | (simp [in64] <;> omega) | (simp only [in64, true_and, and_true]; omega)) ?_)
            | (refine AWP.eq_agg e' tab_ok rfl rfl rfl (.inr ⟨rfl, rfl⟩) ?_ 5 (by omega) rfl ?_ rfl rfl rfl rfl rfl rfl rfl ?_; (focus kernel_rfl); (focus kernel_rfl); refine AWP.runL e' tab_ok L21 300 rfl (by first | trivial | (simp [in64] <;> omega) | (simp only [in64, true_and, and_true]; omega)) ?_)
          )
        (first | (refine AWP.ret e' tab_ok rfl ?_) | (refine AWP.fin e' tab_ok rfl ?_)); rw [hP']; show AWP cx _ _
        refine AWP.runL e tab_ok L15 300 rfl (by first | trivial | (simp [in64] <;> omega) | (simp only [in64, true_and, and_true]; omega)) ?_
        repeat (
          first
            | (refine AWP.askT rfl ?_; (first | (refine Told.t rfl ?_) | (refine Told.f rfl ?_) | (refine Told.t ?_ ?_; (focus assumption)) | (refine Told.f ?_ ?_; (focus assumption)) | (refine Told.t ?_ ?_; (focus (first | (simp; omega) | (simp [*]; done)); done)) | (refine Told.f ?_ ?_; (focus (first | (simp; omega) | (simp [*]; done)); done))); refine AWP.runL e tab_ok L15 300 rfl (by first | trivial | (simp [] <;> omega) | (simp only [in64, true_and, and_true]; omega)) ?_)
            | (refine AWP.eq_agg e tab_ok rfl rfl rfl (.inl ⟨rfl, rfl⟩) ?_ 5 (by omega) rfl ?_ rfl rfl rfl rfl rfl rfl rfl ?_; (focus kernel_rfl); (focus kernel_rfl); refine AWP.runL e tab_ok L15 300 rfl (by first | trivial | (simp [in64] <;> omega) | (simp only [in64, true_and, and_true]; omega)) ?_)
            | (refine AWP.eq_agg e tab_ok rfl rfl rfl (.inr ⟨rfl, rfl⟩) ?_ 5 (by omega) rfl ?_ rfl rfl rfl rfl rfl rfl rfl ?_; (focus kernel_rfl); (focus kernel_rfl); refine AWP.runL e tab_ok L15 300 rfl (by first | trivial | (simp [in64] <;> omega) | (simp only [in64, true_and, and_true]; omega)) ?_)
          )
        refine AWP.append1 u8S o c e tab_ok rfl rfl rfl rfl rfl rfl rfl rfl rfl rfl rfl rfl (congrArg (fun z => [SV.d (.v (.int .u8 z))]) hb) rfl (by show (_ + 1) * 1 ≤ _; omega) (by omega) fun C2 => ?_
        refine AWP.runL e tab_ok L15 300 rfl (by first | trivial | (simp [in64] <;> omega) | (simp only [in64, true_and, and_true]; omega)) ?_
        refine AWP.lessR e [(1, 3)] ?_ ?_ ?_ ?_ ?_ ?_ ((nx _ C2 hu)) <;> (repeat' (first | exact True.intro | (refine And.intro ?_ ?_) | rfl | assumption))
        exact u8_ids _ 0
  · have hlt : ¬ i < l.length := by have := of_decide_eq_false hlt; omega
    obtain rfl : i = l.length := by omega
    rw [List.take_length] at hu
    unfold unstR at hP
    rw [hu] at hP
    dsimp only at hP
    obtain ⟨b, n⟩ := x
    have hx5 : n ≤ 5 := hx5
    clear next
    by_cases h5 : n = 5
    · rw [if_pos h5] at hP
      refine AWP.runL e tab_ok L15 300 rfl (by first | trivial | (simp [in64] <;> omega) | (simp only [in64, true_and, and_true]; omega)) ?_
      repeat (
        first
          | (refine AWP.askT rfl ?_; (first | (refine Told.t rfl ?_) | (refine Told.f rfl ?_) | (refine Told.t ?_ ?_; (focus assumption)) | (refine Told.f ?_ ?_; (focus assumption)) | (refine Told.t ?_ ?_; (focus (first | (simp; omega) | (simp [*]; done)); done)) | (refine Told.f ?_ ?_; (focus (first | (simp; omega) | (simp [*]; done)); done))); refine AWP.runL e tab_ok L15 300 rfl (by first | trivial | (simp [in64] <;> omega) | (simp only [in64, true_and, and_true]; omega)) ?_)
          | (refine AWP.eq_agg e tab_ok rfl rfl rfl (.inl ⟨rfl, rfl⟩) ?_ 5 (by omega) rfl ?_ rfl rfl rfl rfl rfl rfl rfl ?_; (focus kernel_rfl); (focus kernel_rfl); refine AWP.runL e tab_ok L15 300 rfl (by first | trivial | (simp [in64] <;> omega) | (simp only [in64, true_and, and_true]; omega)) ?_)
          | (refine AWP.eq_agg e tab_ok rfl rfl rfl (.inr ⟨rfl, rfl⟩) ?_ 5 (by omega) rfl ?_ rfl rfl rfl rfl rfl rfl rfl ?_; (focus kernel_rfl); (focus kernel_rfl); refine AWP.runL e tab_ok L15 300 rfl (by first | trivial | (simp [in64] <;> omega) | (simp only [in64, true_and, and_true]; omega)) ?_)
        )
      refine AWP.ret e tab_ok rfl ?_
      rw [hP]
      all_goals first | rfl | (simp [strip]; done)
    · rw [if_neg h5] at hP
      refine AWP.runL e tab_ok L15 300 rfl (by first | trivial | (simp [in64] <;> omega) | (simp only [in64, true_and, and_true]; omega)) ?_
      repeat (
        first
          | (refine AWP.askT rfl ?_; (first | (refine Told.t rfl ?_) | (refine Told.f rfl ?_) | (refine Told.t ?_ ?_; (focus assumption)) | (refine Told.f ?_ ?_; (focus assumption)) | (refine Told.t ?_ ?_; (focus (first | (simp; omega) | (simp [*]; done)); done)) | (refine Told.f ?_ ?_; (focus (first | (simp; omega) | (simp [*]; done)); done))); refine AWP.runL e tab_ok L15 300 rfl (by first | trivial | (simp [in64] <;> omega) | (simp only [in64, true_and, and_true]; omega)) ?_)
          | (refine AWP.eq_agg e tab_ok rfl rfl rfl (.inl ⟨rfl, rfl⟩) ?_ 5 (by omega) rfl ?_ rfl rfl rfl rfl rfl rfl rfl ?_; (focus kernel_rfl); (focus kernel_rfl); refine AWP.runL e tab_ok L15 300 rfl (by first | trivial | (simp [in64] <;> omega) | (simp only [in64, true_and, and_true]; omega)) ?_)
          | (refine AWP.eq_agg e tab_ok rfl rfl rfl (.inr ⟨rfl, rfl⟩) ?_ 5 (by omega) rfl ?_ rfl rfl rfl rfl rfl rfl rfl ?_; (focus kernel_rfl); (focus kernel_rfl); refine AWP.runL e tab_ok L15 300 rfl (by first | trivial | (simp [in64] <;> omega) | (simp only [in64, true_and, and_true]; omega)) ?_)
        )
      refine AWP.bytesStr e tab_ok o rfl rfl rfl rfl rfl rfl rfl rfl rfl rfl ?_ ?_
      · intro q b hb
        rw [Nat.zero_add, List.getElem?_map, hb]
        rfl
      refine AWP.runL e tab_ok L15 300 rfl (by first | trivial | (simp [in64] <;> omega) | (simp only [in64, true_and, and_true]; omega)) ?_
      refine AWP.ret e tab_ok rfl ?_
      rw [hP]
      all_goals first | rfl | (simp [strip]; done)
end Go.Proofs.YtmcjfnbohogbdaaDoor
