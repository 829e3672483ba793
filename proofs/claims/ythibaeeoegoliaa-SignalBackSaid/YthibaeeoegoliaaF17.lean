import Derived.Test.YthibaeeoegoliaaF16
open Go Go.Proofs Go.RowKit Go.Sy Go.Signal
namespace Go.Proofs.Ythibaeeoegoliaa

/-- What putting answers. -/
def putR (d : List UInt8) (s : Sig) (v : Int) : SV := match places s with
  | none => .tup [.s .empty, .i 1]
  | some l => if d.length ≤ 8 ∧ rightB s d.length = true then (if fitsB s v then .tup [.s (strL (putL d l v)), .i 0] else .tup [.s .empty, .i 32]) else .tup [.s .empty, .i 23]
theorem right_lt {s : Sig} {l : List Nat} {n : Nat} (h : places s = some l) (hr : rightB s n = true) : ∀ x ∈ l, x < 8 * n := by
  unfold rightB at hr
  rw [h] at hr
  simp only [Bool.and_eq_true, List.all_eq_true, decide_eq_true_eq] at hr
  intro x hx
  have := hr.2 x hx
  omega
theorem put_at (d : List UInt8) (l : List Nat) (v : Int) {i : Nat} (h : i < l.length) : putL d (l.take (i + 1)) v = setBit (putL d (l.take i) v) l[i] (bitI v i) := by
  rw [List.take_succ_eq_append_getElem h, putL_snoc, List.length_take, Nat.min_eq_left (by omega)]
  rfl
set_option maxRecDepth 100000 in
set_option maxHeartbeats 4000000 in
theorem Put_eff (d : List UInt8) (s : Sig) (v : Int) (hd : d.length ≤ 1000) : Eff Try.prog 18 [.s (strL d), .agg (sC s), .i v] [] 0 (fun r _ _ => r = putR d s v) := by
  have c1 := well_eff d s
  have c2 := Fits_eff s v
  have c3 := places_eff s
  have hz : (strL d).size = d.length := strL_size d
  cases h : places s with
  | none =>
    rw [show putR d s v = .tup [.s .empty, .i 1] from by unfold putR; rw [h]]
    rw [show wellE s d.length = 1 from by unfold wellE; rw [h]] at c1
    refine eff_of Try.func18 rfl rfl rfl fun cx e hP => ?_
    refine AWP.runL e tab_ok L18 300 rfl (by first | trivial | (simp [in64] <;> omega) | (simp only [in64, true_and, and_true]; omega)) ?_
    repeat (
      first
        | (refine AWP.askT rfl ?_; (first | (refine Told.t rfl ?_) | (refine Told.f rfl ?_) | (refine Told.t ?_ ?_; (focus assumption)) | (refine Told.f ?_ ?_; (focus assumption)) | (refine Told.t ?_ ?_; (focus (first | (simp; omega) | (simp [*]; done)); done)) | (refine Told.f ?_ ?_; (focus (first | (simp; omega) | (simp [*]; done)); done))); refine AWP.runL e tab_ok L18 300 rfl (by first | trivial | (simp [in64] <;> omega) | (simp only [in64, true_and, and_true]; omega)) ?_)
        | (refine AWP.callQ e rfl rfl ?_; (first | refine CallQ.mk (c1) rfl rfl ?_); refine AWP.runL e tab_ok L18 300 rfl (by first | trivial | (simp [in64] <;> omega) | (simp only [in64, true_and, and_true]; omega)) ?_)
        | (refine AWP.eq_agg e tab_ok rfl rfl rfl (.inl ⟨rfl, rfl⟩) ?_ 5 (by omega) rfl ?_ rfl rfl rfl rfl rfl rfl rfl ?_; (focus kernel_rfl); (focus kernel_rfl); refine AWP.runL e tab_ok L18 300 rfl (by first | trivial | (simp [in64] <;> omega) | (simp only [in64, true_and, and_true]; omega)) ?_)
        | (refine AWP.eq_agg e tab_ok rfl rfl rfl (.inr ⟨rfl, rfl⟩) ?_ 5 (by omega) rfl ?_ rfl rfl rfl rfl rfl rfl rfl ?_; (focus kernel_rfl); (focus kernel_rfl); refine AWP.runL e tab_ok L18 300 rfl (by first | trivial | (simp [in64] <;> omega) | (simp only [in64, true_and, and_true]; omega)) ?_)
      )
    refine AWP.ret e tab_ok rfl ?_
    rw [hP]
    all_goals first | rfl | (simp [strip]; done)
  | some l =>
    rw [plR_some h] at c3
    rw [show fitS s v = fitsB s v from by unfold fitS; rw [h]] at c2
    have hl := places_len h
    have hn : (rowI (intsN l)).length = l.length := by simp
    have hR : putR d s v = if d.length ≤ 8 ∧ rightB s d.length = true then (if fitsB s v then .tup [.s (strL (putL d l v)), .i 0] else .tup [.s .empty, .i 32]) else .tup [.s .empty, .i 23] := by unfold putR; rw [h]
    have hW : wellE s d.length = if d.length ≤ 8 ∧ rightB s d.length = true then 0 else 23 := by unfold wellE; rw [h]
    rw [hR]
    rw [hW] at c1
    by_cases hw : d.length ≤ 8 ∧ rightB s d.length = true
    · rw [if_pos hw]
      rw [if_pos hw] at c1
      have hlt := right_lt h hw.2
      rcases cases_b (fitsB s v) with q | q
      · rw [if_pos q]
        rw [q] at c2
        refine eff_of Try.func18 rfl rfl rfl fun cx e hP => ?_
        refine AWP.runL e tab_ok L18 300 rfl (by first | trivial | (simp [in64] <;> omega) | (simp only [in64, true_and, and_true]; omega)) ?_
        repeat (
          first
            | (refine AWP.askT rfl ?_; (first | (refine Told.t rfl ?_) | (refine Told.f rfl ?_) | (refine Told.t ?_ ?_; (focus assumption)) | (refine Told.f ?_ ?_; (focus assumption)) | (refine Told.t ?_ ?_; (focus (first | (simp; omega) | (simp [*]; done)); done)) | (refine Told.f ?_ ?_; (focus (first | (simp; omega) | (simp [*]; done)); done))); refine AWP.runL e tab_ok L18 300 rfl (by first | trivial | (simp [in64] <;> omega) | (simp only [in64, true_and, and_true]; omega)) ?_)
            | (refine AWP.callQ e rfl rfl ?_; (first | refine CallQ.mk (c1) rfl rfl ?_ | refine CallQ.mk (c2) rfl rfl ?_); refine AWP.runL e tab_ok L18 300 rfl (by first | trivial | (simp [in64] <;> omega) | (simp only [in64, true_and, and_true]; omega)) ?_)
            | (refine AWP.eq_agg e tab_ok rfl rfl rfl (.inl ⟨rfl, rfl⟩) ?_ 5 (by omega) rfl ?_ rfl rfl rfl rfl rfl rfl rfl ?_; (focus kernel_rfl); (focus kernel_rfl); refine AWP.runL e tab_ok L18 300 rfl (by first | trivial | (simp [in64] <;> omega) | (simp only [in64, true_and, and_true]; omega)) ?_)
            | (refine AWP.eq_agg e tab_ok rfl rfl rfl (.inr ⟨rfl, rfl⟩) ?_ 5 (by omega) rfl ?_ rfl rfl rfl rfl rfl rfl rfl ?_; (focus kernel_rfl); (focus kernel_rfl); refine AWP.runL e tab_ok L18 300 rfl (by first | trivial | (simp [in64] <;> omega) | (simp only [in64, true_and, and_true]; omega)) ?_)
          )
        refine AWP.strBytes e tab_ok rfl rfl rfl rfl rfl rfl rfl rfl (by rw [hz]; omega) fun C hC => ?_
        rw [strL_data, hz]
        refine AWP.runL e tab_ok L18 300 rfl (by first | trivial | (simp [in64] <;> omega) | (simp only [in64, true_and, and_true]; omega)) ?_
        repeat (
          first
            | (refine AWP.askT rfl ?_; (first | (refine Told.t rfl ?_) | (refine Told.f rfl ?_) | (refine Told.t ?_ ?_; (focus assumption)) | (refine Told.f ?_ ?_; (focus assumption)) | (refine Told.t ?_ ?_; (focus (first | (simp; omega) | (simp [*]; done)); done)) | (refine Told.f ?_ ?_; (focus (first | (simp; omega) | (simp [*]; done)); done))); refine AWP.runL e tab_ok L18 300 rfl (by first | trivial | (simp [in64] <;> omega) | (simp only [in64, true_and, and_true]; omega)) ?_)
            | (refine AWP.callQ e rfl rfl ?_; (first | refine CallQ.mk (c3) rfl rfl ?_); refine AWP.runL e tab_ok L18 300 rfl (by first | trivial | (simp [in64] <;> omega) | (simp only [in64, true_and, and_true]; omega)) ?_)
            | (refine AWP.eq_agg e tab_ok rfl rfl rfl (.inl ⟨rfl, rfl⟩) ?_ 5 (by omega) rfl ?_ rfl rfl rfl rfl rfl rfl rfl ?_; (focus kernel_rfl); (focus kernel_rfl); refine AWP.runL e tab_ok L18 300 rfl (by first | trivial | (simp [in64] <;> omega) | (simp only [in64, true_and, and_true]; omega)) ?_)
            | (refine AWP.eq_agg e tab_ok rfl rfl rfl (.inr ⟨rfl, rfl⟩) ?_ 5 (by omega) rfl ?_ rfl rfl rfl rfl rfl rfl rfl ?_; (focus kernel_rfl); (focus kernel_rfl); refine AWP.runL e tab_ok L18 300 rfl (by first | trivial | (simp [in64] <;> omega) | (simp only [in64, true_and, and_true]; omega)) ?_)
          )
        refine AWP.loop (ι := Nat) (fun i => ⟨[(28, .i i), (27, .i (rowI (intsN l)).length), (26, slI (intsN l)), (9, .own 1 1 0 d.length C), (2, .i v)], [(1, .row 5 true 1 ((putL d (l.take i) v).map u8S) C)], 2⟩) (fun i => i ≤ l.length) (fun i => l.length - i) 0 (Nat.zero_le _) ?_ ?_
        · intro g
          refine AWP.less e ?_ ?_ ?_ ?_ ?_ (g) <;> (repeat' (first | exact True.intro | (refine And.intro ?_ ?_) | rfl | assumption))
          exact u8_ids _ 2
        intro i Φ hi next
        refine AWP.runL e tab_ok L18 300 rfl (by first | trivial | (simp [in64] <;> omega) | (simp only [in64, true_and, and_true]; omega)) ?_
        refine AWP.cond2 rfl (fun hil => ?_) (fun hil => ?_)
        · have hil : i < l.length := by have := of_decide_eq_true hil; omega
          have hel := intsN_at hil
          have nx := next (i + 1) hil (by omega)
          rw [put_at d l v hil] at nx
          have hx := hlt _ (List.getElem_mem hil)
          have hpl : (putL d (l.take i) v).length = d.length := putL_len _ _ _
          generalize putL d (l.take i) v = o at *
          generalize l[i] = x at *
          have hb := bit_of v i (by omega)
          generalize bitI v i = b at *
          clear next
          refine AWP.runL e tab_ok L18 300 rfl (by first | trivial | (simp [in64] <;> omega) | (simp only [in64, true_and, and_true]; omega)) ?_
          refine AWP.idx e tab_ok rfl rfl rfl rfl i rfl hel ?_
          refine AWP.runL e tab_ok L18 300 rfl (by first | trivial | (simp [] <;> omega) | (simp only [in64, true_and, and_true]; omega)) ?_
          refine AWP.eqT 12 (.d (.v (.int .u8 (bI b)))) rfl (congrArg (fun z => SV.d (.v (.int .u8 z))) hb) ?_
          have hq := div8 x
          have hr := mod8 x
          have hm : 0 ≤ (x : Int).tmod 8 := by rw [hr]; omega
          have hx8 : x / 8 < d.length := by omega
          have ho := u8_at o (show x / 8 < o.length by omega)
          have hid0 := u8_ids o 0
          have hid2 := u8_ids o 2
          have hid1 := u8_ids (setBit o x b) 0
          have hid3 := u8_ids (setBit o x b) 2
          have hset : (o.map u8S).set (x / 8) (u8S (setU (o.getD (x / 8) 0) (x % 8) b)) = (setBit o x b).map u8S := u8_set _ _ _
          have hby := put_byte (o.getD (x / 8) 0) (Nat.mod_lt x (show 0 < 8 by decide)) b
          rw [← hr] at hby
          refine AWP.keep L18 rfl ?_
          refine AWP.drg 9 ?_
          (refine DrG.runS e tab_ok 200 rfl (by first | trivial | (simp [in64] <;> omega) | (simp only [in64, true_and, and_true]; omega)) ?_)
          repeat (
            first
              | (refine DrG.askT rfl ?_; (first | (refine Told.t rfl ?_) | (refine Told.f rfl ?_) | (refine Told.t ?_ ?_; (focus assumption)) | (refine Told.f ?_ ?_; (focus assumption)) | (refine Told.t ?_ ?_; (focus (first | (simp; omega) | (simp [*]; done)); done)) | (refine Told.f ?_ ?_; (focus (first | (simp; omega) | (simp [*]; done)); done))); (refine DrG.runS e tab_ok 200 rfl (by first | trivial | (simp [in64] <;> omega) | (simp only [in64, true_and, and_true]; omega)) ?_))
              | (refine DrG.eq_agg e tab_ok rfl rfl rfl (.inl ⟨rfl, rfl⟩) ?_ 5 (by omega) rfl ?_ rfl rfl rfl rfl rfl rfl rfl ?_; (focus kernel_rfl); (focus kernel_rfl); (refine DrG.runS e tab_ok 200 rfl (by first | trivial | (simp [in64] <;> omega) | (simp only [in64, true_and, and_true]; omega)) ?_))
              | (refine DrG.eq_aggGo e tab_ok rfl rfl rfl rfl (.inl ⟨rfl, rfl⟩) ?_ 5 (by omega) rfl ?_ rfl rfl rfl rfl rfl rfl rfl ?_; (focus kernel_rfl); (focus kernel_rfl); (refine DrG.runS e tab_ok 200 rfl (by first | trivial | (simp [in64] <;> omega) | (simp only [in64, true_and, and_true]; omega)) ?_))
              | (refine DrG.eq_agg e tab_ok rfl rfl rfl (.inr ⟨rfl, rfl⟩) ?_ 5 (by omega) rfl ?_ rfl rfl rfl rfl rfl rfl rfl ?_; (focus kernel_rfl); (focus kernel_rfl); (refine DrG.runS e tab_ok 200 rfl (by first | trivial | (simp [in64] <;> omega) | (simp only [in64, true_and, and_true]; omega)) ?_))
              | (refine DrG.eq_aggGo e tab_ok rfl rfl rfl rfl (.inr ⟨rfl, rfl⟩) ?_ 5 (by omega) rfl ?_ rfl rfl rfl rfl rfl rfl rfl ?_; (focus kernel_rfl); (focus kernel_rfl); (refine DrG.runS e tab_ok 200 rfl (by first | trivial | (simp [in64] <;> omega) | (simp only [in64, true_and, and_true]; omega)) ?_))
            )
          refine DrG.idx_own (x / 8) e tab_ok rfl rfl rfl rfl hq hx8 rfl ?_
          refine DrG.load_el (.d (.v (.int .u8 ((o.getD (x / 8) 0).toNat : Int)))) e tab_ok rfl rfl rfl rfl (by rw [Nat.zero_add]; exact ho) rfl rfl ?_
          (refine DrG.runS e tab_ok 200 rfl (by first | trivial | (simp [in64] <;> omega) | (simp only [in64, true_and, and_true]; omega)) ?_)
          repeat (
            first
              | (refine DrG.askT rfl ?_; (first | (refine Told.t rfl ?_) | (refine Told.f rfl ?_) | (refine Told.t ?_ ?_; (focus assumption)) | (refine Told.f ?_ ?_; (focus assumption)) | (refine Told.t ?_ ?_; (focus (first | (simp; omega) | (simp [*]; done)); done)) | (refine Told.f ?_ ?_; (focus (first | (simp; omega) | (simp [*]; done)); done))); (refine DrG.runS e tab_ok 200 rfl (by first | trivial | (simp [in64] <;> omega) | (simp only [in64, true_and, and_true]; omega)) ?_))
              | (refine DrG.eq_agg e tab_ok rfl rfl rfl (.inl ⟨rfl, rfl⟩) ?_ 5 (by omega) rfl ?_ rfl rfl rfl rfl rfl rfl rfl ?_; (focus kernel_rfl); (focus kernel_rfl); (refine DrG.runS e tab_ok 200 rfl (by first | trivial | (simp [in64] <;> omega) | (simp only [in64, true_and, and_true]; omega)) ?_))
              | (refine DrG.eq_aggGo e tab_ok rfl rfl rfl rfl (.inl ⟨rfl, rfl⟩) ?_ 5 (by omega) rfl ?_ rfl rfl rfl rfl rfl rfl rfl ?_; (focus kernel_rfl); (focus kernel_rfl); (refine DrG.runS e tab_ok 200 rfl (by first | trivial | (simp [in64] <;> omega) | (simp only [in64, true_and, and_true]; omega)) ?_))
              | (refine DrG.eq_agg e tab_ok rfl rfl rfl (.inr ⟨rfl, rfl⟩) ?_ 5 (by omega) rfl ?_ rfl rfl rfl rfl rfl rfl rfl ?_; (focus kernel_rfl); (focus kernel_rfl); (refine DrG.runS e tab_ok 200 rfl (by first | trivial | (simp [in64] <;> omega) | (simp only [in64, true_and, and_true]; omega)) ?_))
              | (refine DrG.eq_aggGo e tab_ok rfl rfl rfl rfl (.inr ⟨rfl, rfl⟩) ?_ 5 (by omega) rfl ?_ rfl rfl rfl rfl rfl rfl rfl ?_; (focus kernel_rfl); (focus kernel_rfl); (refine DrG.runS e tab_ok 200 rfl (by first | trivial | (simp [in64] <;> omega) | (simp only [in64, true_and, and_true]; omega)) ?_))
            )
          refine DrG.eqV (congrArg (fun z => SV.d (.v (.int .u8 z))) hby) ?_
          refine DrG.idx_own (x / 8) e tab_ok rfl rfl rfl rfl hq hx8 rfl ?_
          refine DrG.store_el e tab_ok rfl rfl rfl rfl rfl (by rw [Nat.zero_add]; exact ho) rfl rfl rfl rfl (by rw [Nat.zero_add, hset]; exact hid1) rfl ?_
          refine DrG.finK e rfl ?_ rfl rfl rfl ?_ ?_
          (focus kernel_rfl)
          (focus (repeat' (first | exact True.intro | (refine And.intro ?_ ?_) | rfl | assumption | exact okRow _)))
          dsimp only [tmS, hpS, tput, effH]
          rw [Nat.zero_add]
          rw [hset]
          refine AWP.runL e tab_ok L18 300 rfl (by first | trivial | (simp [in64] <;> omega) | (simp only [in64, true_and, and_true]; omega)) ?_
          refine AWP.less e ?_ ?_ ?_ ?_ ?_ (nx) <;> (repeat' (first | exact True.intro | (refine And.intro ?_ ?_) | rfl | assumption))
        · have hil : ¬ i < l.length := by have := of_decide_eq_false hil; omega
          obtain rfl : i = l.length := by omega
          rw [List.take_length]
          refine AWP.runL e tab_ok L18 300 rfl (by first | trivial | (simp [in64] <;> omega) | (simp only [in64, true_and, and_true]; omega)) ?_
          refine AWP.bytesStr e tab_ok (putL d l v) rfl rfl rfl rfl rfl rfl rfl rfl rfl ?_ ?_ ?_
          · exact (putL_len _ _ _).symm
          · intro q b hb
            rw [Nat.zero_add, List.getElem?_map, hb]
            rfl
          refine AWP.runL e tab_ok L18 300 rfl (by first | trivial | (simp [in64] <;> omega) | (simp only [in64, true_and, and_true]; omega)) ?_
          refine AWP.ret e tab_ok rfl ?_
          rw [hP]
          all_goals first | rfl | (simp [strip]; done)
      · rw [if_neg (by rw [q]; decide)]
        rw [q] at c2
        refine eff_of Try.func18 rfl rfl rfl fun cx e hP => ?_
        refine AWP.runL e tab_ok L18 300 rfl (by first | trivial | (simp [in64] <;> omega) | (simp only [in64, true_and, and_true]; omega)) ?_
        repeat (
          first
            | (refine AWP.askT rfl ?_; (first | (refine Told.t rfl ?_) | (refine Told.f rfl ?_) | (refine Told.t ?_ ?_; (focus assumption)) | (refine Told.f ?_ ?_; (focus assumption)) | (refine Told.t ?_ ?_; (focus (first | (simp; omega) | (simp [*]; done)); done)) | (refine Told.f ?_ ?_; (focus (first | (simp; omega) | (simp [*]; done)); done))); refine AWP.runL e tab_ok L18 300 rfl (by first | trivial | (simp [in64] <;> omega) | (simp only [in64, true_and, and_true]; omega)) ?_)
            | (refine AWP.callQ e rfl rfl ?_; (first | refine CallQ.mk (c1) rfl rfl ?_ | refine CallQ.mk (c2) rfl rfl ?_); refine AWP.runL e tab_ok L18 300 rfl (by first | trivial | (simp [in64] <;> omega) | (simp only [in64, true_and, and_true]; omega)) ?_)
            | (refine AWP.eq_agg e tab_ok rfl rfl rfl (.inl ⟨rfl, rfl⟩) ?_ 5 (by omega) rfl ?_ rfl rfl rfl rfl rfl rfl rfl ?_; (focus kernel_rfl); (focus kernel_rfl); refine AWP.runL e tab_ok L18 300 rfl (by first | trivial | (simp [in64] <;> omega) | (simp only [in64, true_and, and_true]; omega)) ?_)
            | (refine AWP.eq_agg e tab_ok rfl rfl rfl (.inr ⟨rfl, rfl⟩) ?_ 5 (by omega) rfl ?_ rfl rfl rfl rfl rfl rfl rfl ?_; (focus kernel_rfl); (focus kernel_rfl); refine AWP.runL e tab_ok L18 300 rfl (by first | trivial | (simp [in64] <;> omega) | (simp only [in64, true_and, and_true]; omega)) ?_)
          )
        refine AWP.ret e tab_ok rfl ?_
        rw [hP]
        all_goals first | rfl | (simp [strip]; done)
    · rw [if_neg hw]
      rw [if_neg hw] at c1
      refine eff_of Try.func18 rfl rfl rfl fun cx e hP => ?_
      refine AWP.runL e tab_ok L18 300 rfl (by first | trivial | (simp [in64] <;> omega) | (simp only [in64, true_and, and_true]; omega)) ?_
      repeat (
        first
          | (refine AWP.askT rfl ?_; (first | (refine Told.t rfl ?_) | (refine Told.f rfl ?_) | (refine Told.t ?_ ?_; (focus assumption)) | (refine Told.f ?_ ?_; (focus assumption)) | (refine Told.t ?_ ?_; (focus (first | (simp; omega) | (simp [*]; done)); done)) | (refine Told.f ?_ ?_; (focus (first | (simp; omega) | (simp [*]; done)); done))); refine AWP.runL e tab_ok L18 300 rfl (by first | trivial | (simp [in64] <;> omega) | (simp only [in64, true_and, and_true]; omega)) ?_)
          | (refine AWP.callQ e rfl rfl ?_; (first | refine CallQ.mk (c1) rfl rfl ?_); refine AWP.runL e tab_ok L18 300 rfl (by first | trivial | (simp [in64] <;> omega) | (simp only [in64, true_and, and_true]; omega)) ?_)
          | (refine AWP.eq_agg e tab_ok rfl rfl rfl (.inl ⟨rfl, rfl⟩) ?_ 5 (by omega) rfl ?_ rfl rfl rfl rfl rfl rfl rfl ?_; (focus kernel_rfl); (focus kernel_rfl); refine AWP.runL e tab_ok L18 300 rfl (by first | trivial | (simp [in64] <;> omega) | (simp only [in64, true_and, and_true]; omega)) ?_)
          | (refine AWP.eq_agg e tab_ok rfl rfl rfl (.inr ⟨rfl, rfl⟩) ?_ 5 (by omega) rfl ?_ rfl rfl rfl rfl rfl rfl rfl ?_; (focus kernel_rfl); (focus kernel_rfl); refine AWP.runL e tab_ok L18 300 rfl (by first | trivial | (simp [in64] <;> omega) | (simp only [in64, true_and, and_true]; omega)) ?_)
        )
      refine AWP.ret e tab_ok rfl ?_
      rw [hP]
      all_goals first | rfl | (simp [strip]; done)

end Go.Proofs.Ythibaeeoegoliaa
