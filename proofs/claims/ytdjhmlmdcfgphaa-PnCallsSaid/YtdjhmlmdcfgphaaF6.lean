import Derived.Test.YtdjhmlmdcfgphaaF5
open Go Go.Proofs Go.Sy
namespace Go.Proofs.Ytdjhmlmdcfgphaa

theorem want_cases (m o : BitVec 16) (s : Nat → Int) (l z : Int) (on : Bool) (h : rightB m o s l = true) : (∃ i : Nat, z = i ∧ m.getLsbD i = true) ∨ Eff Try.prog 9 [pn m o s l, .i z, .b on] [] 0 (fun r _ _ => r = .tup [pn0, .i 1]) := by
  by_cases hz : z < 0 ∨ 16 ≤ z
  · exact .inr (want_out _ _ _ _ _ _ h hz)
  · obtain ⟨i, rfl⟩ : ∃ i : Nat, z = i := ⟨z.toNat, by omega⟩
    cases c : m.getLsbD i
    · exact .inr (want_no _ _ _ _ _ _ h (by omega) c)
    · exact .inl ⟨i, rfl, c⟩

theorem see_act (told : BitVec 16) (l : Int) (h : 1 ≤ l) : actN 0#16 (seeS told (fun _ => 0) l 16) 16 = told := by
  have := see_all told l h
  rw [show (65535#16) = BitVec.allOnes 16 from rfl, BitVec.and_allOnes] at this
  exact this

theorem tell_told (o : BitVec 16) (x : ByteArray) : 2 ≤ (tellS o ++ x).size ∧ toldB (tellS o ++ x) = o := by
  have hd : (tellS o ++ x).data.toList = [⟨o.setWidth 8⟩, ⟨(o >>> 8).setWidth 8⟩] ++ x.data.toList := by
    rw [ByteArray.data_append, Array.toList_append]
    rfl
  constructor
  · have := congrArg List.length hd
    simp only [Array.length_toList, List.length_append, List.length_cons, List.length_nil] at this
    show 2 ≤ (tellS o ++ x).data.size
    omega
  · unfold toldB byteB
    rw [hd]
    apply BitVec.eq_of_getLsbD_eq
    intro k hk
    simp only [List.cons_append, List.getD_cons_zero, List.getD_cons_succ, BitVec.getLsbD_or, BitVec.getLsbD_setWidth, BitVec.getLsbD_shiftLeft, BitVec.getLsbD_ushiftRight, hk, decide_true, Bool.true_and]
    by_cases c : k < 8
    · simp [c]
    · simp [c, show k - 8 < 8 by omega, show k - 8 < 16 by omega, show 8 + (k - 8) = k by omega]
theorem told_tell (o : BitVec 16) : toldN (tellS o) = o := by
  have h := tell_told o .empty
  rw [ByteArray.append_empty] at h
  unfold toldN
  rw [if_pos h.1, h.2]

abbrev rowN (l : List Int) : List (List DV) := l.map fun v => [.v (.int .i64 v)]

set_option maxHeartbeats 1000000 in
set_option maxRecDepth 100000 in
theorem tells_eff (a b : BitVec 16) (l : Int) (ws : List Int) (hws : ws.length ≤ 9223372036854775807) (more : ByteArray) : Eff Try.prog 5 [U16 a, U16 b, .i l, .d (.sl 1 (rowN ws)), .s more] [] 0 (fun r _ _ => r = .b true) := by
  obtain ⟨L, hL⟩ : ∃ L, L = if 1000 < (if 1 > l then 1 else l) then 1000 else if 1 > l then 1 else l := ⟨_, rfl⟩
  have hL1 : 1 ≤ L ∧ L ≤ 1000 := by rw [hL]; split <;> split <;> omega
  have ha := new_ok a L (by omega)
  have hb := new_ok b L (by omega)
  have ra : rightB a 0#16 (fun _ => 0) L = true := right_new (by omega)
  have rb : rightB b 0#16 (fun _ => 0) L = true := right_new (by omega)
  refine eff_of Try.func5 rfl rfl rfl fun cx e hP => ?_
  refine AWP.runL e tab_ok L5 300 rfl (by first | trivial | (simp [in64] <;> omega)) ?_
  refine AWP.eqT 2 (.i L) rfl (congrArg SV.i hL.symm) ?_
  refine AWP.eqT 30 (.i L) rfl (congrArg SV.i hL.symm) ?_
  clear hL
  repeat (
    first
      | (refine AWP.askT rfl ?_; (first | (refine Told.t rfl ?_) | (refine Told.f rfl ?_) | (refine Told.t ?_ ?_; (focus (first | assumption | (simp; omega) | (simp [*]; done)); done)) | (refine Told.f ?_ ?_; (focus (first | assumption | (simp; omega) | (simp [*]; done)); done))); refine AWP.runL e tab_ok L5 300 rfl (by first | trivial | (simp [in64] <;> omega)) ?_)
      | (refine AWP.callQ e rfl rfl ?_; (first | refine CallQ.mk (ha) rfl rfl ?_ | refine CallQ.mk (hb) rfl rfl ?_ | refine CallQ.mk (alive_eff) rfl rfl ?_); refine AWP.runL e tab_ok L5 300 rfl (by first | trivial | (simp [in64] <;> omega)) ?_)
      | (refine AWP.eq_agg e tab_ok rfl rfl rfl (.inl ⟨rfl, rfl⟩) ?_ 5 (by omega) rfl ?_ rfl rfl rfl rfl rfl rfl rfl ?_; (focus kernel_rfl); (focus kernel_rfl); refine AWP.runL e tab_ok L5 300 rfl (by first | trivial | (simp [in64] <;> omega)) ?_)
      | (refine AWP.eq_agg e tab_ok rfl rfl rfl (.inr ⟨rfl, rfl⟩) ?_ 5 (by omega) rfl ?_ rfl rfl rfl rfl rfl rfl rfl ?_; (focus kernel_rfl); (focus kernel_rfl); refine AWP.runL e tab_ok L5 300 rfl (by first | trivial | (simp [in64] <;> omega)) ?_)
    )
  refine AWP.loopX (ι := Nat × BitVec 16) (ε := BitVec 16) (fun s => ⟨[(52, .i s.1), (51, .i ws.length), (50, .d (.sl 1 (rowN ws))), (1, U16 b), (4, .s more), (11, .ptr 0 0), (13, .ptr 1 0)], [(0, .box (pnC a s.2 (fun _ => 0) L)), (1, .box (pnC b 0#16 (fun _ => 0) L))], 2⟩)
    (fun s => s.1 ≤ ws.length ∧ rightB a s.2 (fun _ => 0) L = true) (fun s => ws.length - s.1) (0, 0#16) ⟨Nat.zero_le _, ra⟩
    (fun o => ⟨[(1, U16 b), (4, .s more), (11, .ptr 0 0), (13, .ptr 1 0)], [(0, .box (pnC a o (fun _ => 0) L)), (1, .box (pnC b 0#16 (fun _ => 0) L))], 2⟩) (fun o => rightB a o (fun _ => 0) L = true) ?_ ?_ ?_
  · intro o ho
    have htl := tell_ok a o (fun _ => 0) L ho
    have hts : (tellS o).size = 2 := rfl
    have htd : ∀ n, Eff Try.prog 17 [.s (tellS o ++ more.extract 0 n)] [] 0 (fun r _ _ => r = .tup [U16 o, .i 0]) := fun n => by
      have h := told_ok (tellS o ++ more.extract 0 n) (tell_told o _).1
      rw [(tell_told o _).2] at h
      exact h
    have hse := see_ok b 0#16 (fun _ => 0) L o rb
    have hac := active_ok b 0#16 (seeS o (fun _ => 0) L 16) L (right_see rb)
    rw [see_act _ _ hL1.1] at hac
    have hwk := wakes_eff b 0#16 (fun _ => 0) L (tellS o) rb
    rw [told_tell] at hwk
    have h0 : ((o.toNat : Int) == (o.toNat : Int)) = true := beq_self_eq_true _
    have h1 : ((((o &&& b).toNat : Nat) : Int) == IntKind.wrap .u16 ((BitVec.ofInt 16 (o.toNat : Int) &&& BitVec.ofInt 16 (b.toNat : Int)).toNat : Int)) = true := by
      rw [and_val]; exact beq_self_eq_true _
    have h2 : ((!(o &&& b == 0#16)) == (IntKind.wrap .u16 ((BitVec.ofInt 16 (o.toNat : Int) &&& BitVec.ofInt 16 (b.toNat : Int)).toNat : Int) != 0)) = true := by
      rw [ne0_val]; exact beq_self_eq_true _
    refine AWP.runL e tab_ok L5 300 rfl (by first | trivial | (simp [in64] <;> omega)) ?_
    repeat (
      first
        | (refine AWP.askT rfl ?_; (first | (refine Told.t rfl ?_) | (refine Told.f rfl ?_) | (refine Told.t ?_ ?_; (focus (first | assumption | (simp; omega) | (simp [*]; done)); done)) | (refine Told.f ?_ ?_; (focus (first | assumption | (simp; omega) | (simp [*]; done)); done))); refine AWP.runL e tab_ok L5 300 rfl (by first | trivial | (simp [in64] <;> omega)) ?_)
        | (refine AWP.callQ e rfl rfl ?_; (first | refine CallQ.mk (htl) rfl rfl ?_ | refine CallQ.mk (htd _) rfl rfl ?_ | refine CallQ.mk (hse) rfl rfl ?_ | refine CallQ.mk (hac) rfl rfl ?_ | refine CallQ.mk (hwk) rfl rfl ?_); refine AWP.runL e tab_ok L5 300 rfl (by first | trivial | (simp [] <;> omega)) ?_)
        | (refine AWP.eq_agg e tab_ok rfl rfl rfl (.inl ⟨rfl, rfl⟩) ?_ 5 (by omega) rfl ?_ rfl rfl rfl rfl rfl rfl rfl ?_; (focus kernel_rfl); (focus kernel_rfl); refine AWP.runL e tab_ok L5 300 rfl (by first | trivial | (simp [in64] <;> omega)) ?_)
        | (refine AWP.eq_agg e tab_ok rfl rfl rfl (.inr ⟨rfl, rfl⟩) ?_ 5 (by omega) rfl ?_ rfl rfl rfl rfl rfl rfl rfl ?_; (focus kernel_rfl); (focus kernel_rfl); refine AWP.runL e tab_ok L5 300 rfl (by first | trivial | (simp [in64] <;> omega)) ?_)
        | (refine AWP.keep L5 rfl ?_; refine AWP.drg 100 ?_; (refine DrG.runS e tab_ok 200 rfl (by first | trivial | (simp [in64] <;> omega)) ?_); (repeat (first | (refine DrG.askT rfl ?_; (first | (refine Told.t rfl ?_) | (refine Told.f rfl ?_) | (refine Told.t ?_ ?_; (focus (first | assumption | (simp; omega) | (simp [*]; done)); done)) | (refine Told.f ?_ ?_; (focus (first | assumption | (simp; omega) | (simp [*]; done)); done))); (refine DrG.runS e tab_ok 200 rfl (by first | trivial | (simp [in64] <;> omega)) ?_)) | (refine DrG.callQ e rfl rfl ?_; (first | refine CallVQ.mk (htl) rfl rfl ?_ | refine CallVQ.mk (htd _) rfl rfl ?_ | refine CallVQ.mk (hse) rfl rfl ?_ | refine CallVQ.mk (hac) rfl rfl ?_ | refine CallVQ.mk (hwk) rfl rfl ?_); (refine DrG.runS e tab_ok 200 rfl (by first | trivial | (simp [in64] <;> omega)) ?_)) | (refine DrG.callGo e rfl rfl rfl ?_; (first | refine CallVQ.mk (htl) rfl rfl ?_ | refine CallVQ.mk (htd _) rfl rfl ?_ | refine CallVQ.mk (hse) rfl rfl ?_ | refine CallVQ.mk (hac) rfl rfl ?_ | refine CallVQ.mk (hwk) rfl rfl ?_); (refine DrG.runS e tab_ok 200 rfl (by first | trivial | (simp [in64] <;> omega)) ?_)) | (refine DrG.eq_agg e tab_ok rfl rfl rfl (.inl ⟨rfl, rfl⟩) ?_ 5 (by omega) rfl ?_ rfl rfl rfl rfl rfl rfl rfl ?_; (focus kernel_rfl); (focus kernel_rfl); (refine DrG.runS e tab_ok 200 rfl (by first | trivial | (simp [in64] <;> omega)) ?_)) | (refine DrG.eq_aggGo e tab_ok rfl rfl rfl rfl (.inl ⟨rfl, rfl⟩) ?_ 5 (by omega) rfl ?_ rfl rfl rfl rfl rfl rfl rfl ?_; (focus kernel_rfl); (focus kernel_rfl); (refine DrG.runS e tab_ok 200 rfl (by first | trivial | (simp [in64] <;> omega)) ?_)) | (refine DrG.eq_agg e tab_ok rfl rfl rfl (.inr ⟨rfl, rfl⟩) ?_ 5 (by omega) rfl ?_ rfl rfl rfl rfl rfl rfl rfl ?_; (focus kernel_rfl); (focus kernel_rfl); (refine DrG.runS e tab_ok 200 rfl (by first | trivial | (simp [in64] <;> omega)) ?_)) | (refine DrG.eq_aggGo e tab_ok rfl rfl rfl rfl (.inr ⟨rfl, rfl⟩) ?_ 5 (by omega) rfl ?_ rfl rfl rfl rfl rfl rfl rfl ?_; (focus kernel_rfl); (focus kernel_rfl); (refine DrG.runS e tab_ok 200 rfl (by first | trivial | (simp [in64] <;> omega)) ?_)))); refine DrG.finK e rfl ?_ rfl rfl rfl ?_ ?_; (focus kernel_rfl); (focus (repeat' (first | exact True.intro | (refine And.intro ?_ ?_) | rfl | assumption | exact okRow _))); dsimp only [tmS, hpS, tput, effH]; refine AWP.runL e tab_ok L5 300 rfl (by first | trivial | (simp [in64] <;> omega)) ?_)
      )
    refine AWP.ret e tab_ok rfl ?_
    rw [hP]
    exact congrArg SV.b h2
  · intro kk g
    refine AWP.less e ?_ ?_ ?_ ?_ ?_ (g) <;> (repeat' (first | exact True.intro | (refine And.intro ?_ ?_) | rfl | assumption))
    exact congrArg (fun z => some (SV.i z)) (by simp)
  rintro ⟨i, o⟩ Φ Ψ ⟨hI, ho⟩ next fin
  have hI : i ≤ ws.length := hI
  have ho : rightB a o (fun _ => 0) L = true := ho
  refine AWP.runL e tab_ok L5 300 rfl (by first | trivial | (simp [in64] <;> omega)) ?_
  refine AWP.cond2 rfl (fun hlt => ?_) (fun hlt => ?_)
  rotate_left
  · refine AWP.runL e tab_ok L5 300 rfl (by first | trivial | (simp [in64] <;> omega)) ?_
    refine AWP.less e ?_ ?_ ?_ ?_ ?_ (fin o ho) <;> (repeat' (first | exact True.intro | (refine And.intro ?_ ?_) | rfl | assumption))
  have hlt : i < ws.length := by simp at hlt; omega
  refine AWP.runL e tab_ok L5 300 rfl (by first | trivial | (simp [in64] <;> omega)) ?_
  refine AWP.idx e tab_ok rfl rfl rfl rfl i rfl (el := [.v (.int .i64 ws[i])]) (by simp [hlt]) ?_
  refine AWP.runL e tab_ok L5 300 rfl (by first | trivial | (simp [in64] <;> omega)) ?_
  refine AWP.cond2 rfl (fun hq => ?_) (fun hq => ?_)
  · refine AWP.runL e tab_ok L5 300 rfl (by first | trivial | (simp [in64] <;> omega)) ?_
    refine AWP.less e ?_ ?_ ?_ ?_ ?_ (fin o ho) <;> (repeat' (first | exact True.intro | (refine And.intro ?_ ?_) | rfl | assumption))
  refine AWP.runL e tab_ok L5 300 rfl (by first | trivial | (simp [in64] <;> omega)) ?_
  rcases want_cases a o (fun _ => 0) L ws[i] true ho with ⟨j, hj, hbit⟩ | hw
  · have hw := want_ok a o (fun _ => 0) L j true ho hbit
    rw [← hj] at hw
    repeat (
      first
        | (refine AWP.askT rfl ?_; (first | (refine Told.t rfl ?_) | (refine Told.f rfl ?_) | (refine Told.t ?_ ?_; (focus (first | assumption | (simp; omega) | (simp [*]; done)); done)) | (refine Told.f ?_ ?_; (focus (first | assumption | (simp; omega) | (simp [*]; done)); done))); refine AWP.runL e tab_ok L5 300 rfl (by first | trivial | (simp [in64] <;> omega)) ?_)
        | (refine AWP.callQ e rfl rfl ?_; (first | refine CallQ.mk (hw) rfl rfl ?_); refine AWP.runL e tab_ok L5 300 rfl (by first | trivial | (simp [in64] <;> omega)) ?_)
        | (refine AWP.eq_agg e tab_ok rfl rfl rfl (.inl ⟨rfl, rfl⟩) ?_ 5 (by omega) rfl ?_ rfl rfl rfl rfl rfl rfl rfl ?_; (focus kernel_rfl); (focus kernel_rfl); refine AWP.runL e tab_ok L5 300 rfl (by first | trivial | (simp [in64] <;> omega)) ?_)
        | (refine AWP.eq_agg e tab_ok rfl rfl rfl (.inr ⟨rfl, rfl⟩) ?_ 5 (by omega) rfl ?_ rfl rfl rfl rfl rfl rfl rfl ?_; (focus kernel_rfl); (focus kernel_rfl); refine AWP.runL e tab_ok L5 300 rfl (by first | trivial | (simp [in64] <;> omega)) ?_)
      )
    refine AWP.less e ?_ ?_ ?_ ?_ ?_ (next (i + 1, wantB o j true) ⟨hlt, right_want ho hbit⟩ (by show ws.length - (i + 1) < ws.length - i; omega)) <;> (repeat' (first | exact True.intro | (refine And.intro ?_ ?_) | rfl | assumption))
  · repeat (
      first
        | (refine AWP.askT rfl ?_; (first | (refine Told.t rfl ?_) | (refine Told.f rfl ?_) | (refine Told.t ?_ ?_; (focus (first | assumption | (simp; omega) | (simp [*]; done)); done)) | (refine Told.f ?_ ?_; (focus (first | assumption | (simp; omega) | (simp [*]; done)); done))); refine AWP.runL e tab_ok L5 300 rfl (by first | trivial | (simp [in64] <;> omega)) ?_)
        | (refine AWP.callQ e rfl rfl ?_; (first | refine CallQ.mk (hw) rfl rfl ?_); refine AWP.runL e tab_ok L5 300 rfl (by first | trivial | (simp [in64] <;> omega)) ?_)
        | (refine AWP.eq_agg e tab_ok rfl rfl rfl (.inl ⟨rfl, rfl⟩) ?_ 5 (by omega) rfl ?_ rfl rfl rfl rfl rfl rfl rfl ?_; (focus kernel_rfl); (focus kernel_rfl); refine AWP.runL e tab_ok L5 300 rfl (by first | trivial | (simp [in64] <;> omega)) ?_)
        | (refine AWP.eq_agg e tab_ok rfl rfl rfl (.inr ⟨rfl, rfl⟩) ?_ 5 (by omega) rfl ?_ rfl rfl rfl rfl rfl rfl rfl ?_; (focus kernel_rfl); (focus kernel_rfl); refine AWP.runL e tab_ok L5 300 rfl (by first | trivial | (simp [in64] <;> omega)) ?_)
      )
    refine AWP.less e ?_ ?_ ?_ ?_ ?_ (next (i + 1, o) ⟨hlt, ho⟩ (by show ws.length - (i + 1) < ws.length - i; omega)) <;> (repeat' (first | exact True.intro | (refine And.intro ?_ ?_) | rfl | assumption))

theorem tells_args (l : List SV) (h : Args tab 9 [22, 22, 3, 44, 9] l) : Eff Try.prog 5 l [] 0 (fun r _ _ => r = .b true) := by
  obtain ⟨_, _, rfl, ⟨a, rfl, a1, a2⟩, _, _, rfl, ⟨b, rfl, b1, b2⟩, _, _, rfl, ⟨li, rfl, _, _⟩, _, _, rfl, ⟨ys, rfl, hl, hy⟩, _, _, rfl, ⟨s, rfl, _⟩, rfl⟩ := h
  obtain ⟨a, rfl⟩ := u16_of a1 a2
  obtain ⟨b, rfl⟩ := u16_of b1 b2
  obtain ⟨ws, rfl, _⟩ := ints_of (n := 7) (t := 3) rfl rfl ys hy
  exact tells_eff a b li ws (by simpa using hl) s
end Go.Proofs.Ytdjhmlmdcfgphaa
