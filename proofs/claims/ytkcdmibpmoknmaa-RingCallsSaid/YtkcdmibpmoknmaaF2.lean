import Derived.Test.YtkcdmibpmoknmaaF1
open Go Go.Proofs Go.Sy
namespace Go.Proofs.Ytkcdmibpmoknmaa

-- $1 letter, $2 type of an element, $3 its value, $4 zero, $5 New, $6 Right, $7 Room, $8 Put, $9 Take, $10 behind, $11 Clone, $12 the slice's type, $13 the element's type, $14 ring's type
set_option maxRecDepth 100000 in
theorem behindI_eff (l : List (Int)) (x : Int) (w : Nat) (hw : w ≤ l.length) (hl : l.length ≤ 100) : Eff Try.prog 24 [slI l, .d (.v (.int .i64 x)), .i w] [] 0 (fun r _ _ => r = slI (l.drop w ++ [x])) := by
  refine eff_of Try.func24 rfl rfl rfl fun cx e hP => ?_
  refine AWP.runL e tab_ok L24 300 rfl ?_ ?_
  · simp; omega
  obtain ⟨m, hm⟩ : ∃ m, m = l.drop w := ⟨_, rfl⟩
  have hml : m.length ≤ 100 := by rw [hm]; simp; omega
  refine AWP.less e (tm := [(9, slI m), (1, .d (.v (.int .i64 x)))]) (hp := []) (nx := 0) ?_ ?_ ?_ ?_ ?_ ?_
  · exact ⟨congrArg (fun z => some (SV.d (.sl 1 z))) ((drop_map _ w _ l (by simp)).trans (congrArg rowI hm.symm)), rfl, trivial⟩
  · exact trivial
  · rfl
  · exact trivial
  · rfl
  rw [← hm] at hP
  refine AWP.enter e rfl Try.func27 rfl rfl rfl rfl fun cx' e' hP' => ?_
  refine AWP.runL e' tab_ok L27 8 rfl (by trivial) ?_
  refine AWP.nilq e' tab_ok true rfl rfl rfl rfl rfl rfl (.inl ⟨rfl, rfl⟩) fun b hb => ?_
  refine AWP.runL e' tab_ok L27 300 rfl (by first | trivial | (simp [in64] <;> omega)) ?_
  cases b
  · refine AWP.cond rfl false rfl ?_
    refine AWP.runL e' tab_ok L27 300 rfl (by first | trivial | (simp [in64] <;> omega)) ?_
    refine AWP.append e' tab_ok rfl rfl rfl rfl rfl rfl rfl rfl (.sl (rowI m)) rfl (rowI_cells m) (by simp; omega) (by simp; omega) fun C2 hC2 => ?_
    refine AWP.runL e' tab_ok L27 300 rfl (by first | trivial | (simp [in64] <;> omega)) ?_
    refine AWP.ret e' tab_ok rfl ?_
    rw [hP']
    show AWP cx _ _
    refine AWP.runL e tab_ok L24 300 rfl (by first | trivial | (simp [in64] <;> omega)) ?_
    refine AWP.append e tab_ok rfl rfl rfl rfl rfl rfl rfl rfl (.own rfl (by simp)) (by simp) (by simp [allCells, isCell]) (by simp; omega) (by simp; omega) fun C3 hC3 => ?_
    refine AWP.runL e tab_ok L24 300 rfl (by first | trivial | (simp [in64] <;> omega)) ?_
    refine AWP.freezeO (id := 3) (rowI (m ++ [x])) rfl ?_ rfl rfl ?_ ?_ ?_
    (focus (simp))
    (focus (simp [lenDT, lenD, tput, strip]; done))
    (focus (simp [lenDH]; done))
    refine AWP.ret e tab_ok rfl ?_
    rw [hP]
    simp [strip, List.take_of_length_le]
  · refine AWP.cond rfl true rfl ?_
    refine AWP.runL e' tab_ok L27 300 rfl (by first | trivial | (simp [in64] <;> omega)) ?_
    refine AWP.ret e' tab_ok rfl ?_
    rw [hP']
    show AWP cx _ _
    refine AWP.runL e tab_ok L24 300 rfl (by first | trivial | (simp [in64] <;> omega)) ?_
    have hb' : (rowI m).length = 0 := hb rfl
    obtain rfl : m = [] := List.eq_nil_of_length_eq_zero (by simpa using hb')
    refine AWP.nil_own (t := 10) rfl 3 1 ?_
    refine AWP.append e tab_ok rfl rfl rfl rfl rfl rfl rfl rfl (.own rfl (by simp)) (by simp) (by simp [allCells, isCell]) (by simp) (by simp) fun C3 hC3 => ?_
    refine AWP.runL e tab_ok L24 300 rfl (by first | trivial | (simp [in64] <;> omega)) ?_
    refine AWP.freezeO (id := 2) (rowI [x]) rfl ?_ rfl rfl ?_ ?_ ?_
    (focus (rfl))
    (focus (simp [lenDT, lenD, tput, strip]; done))
    (focus (simp [lenDH]; done))
    refine AWP.ret e tab_ok rfl ?_
    rw [hP]
    simp [strip, List.take_of_length_le]

set_option maxRecDepth 100000 in
theorem putI_ok (l : List (Int)) (c : Int) (b : Bool) (x : Int) (h : rightR l.length c = true) (hc : (l.length : Int) < c) : Eff Try.prog 10 [ringI l c b, .d (.v (.int .i64 x))] [] 0 (fun r _ _ => r = .tup [ringI (l ++ [x]) c b, .i 0, .i 0]) := by
  have hr := rightI_eff l c b
  have hm := roomI_eff l c b h
  have hb := behindI_eff l x 0 (by omega) (by have := rightR_get h; omega)
  rw [List.drop_zero] at hb
  rw [h] at hr
  refine eff_of Try.func10 rfl rfl rfl fun cx e hP => ?_
  refine AWP.runL e tab_ok L10 300 rfl (by first | trivial | (simp [in64] <;> omega)) ?_
  repeat (
    first
      | (refine AWP.askT rfl ?_; (first | (refine Told.t rfl ?_) | (refine Told.f rfl ?_) | (refine Told.t ?_ ?_; (focus (first | assumption | (simp; omega) | (simp [*]; done)); done)) | (refine Told.f ?_ ?_; (focus (first | assumption | (simp; omega) | (simp [*]; done)); done))); refine AWP.runL e tab_ok L10 300 rfl (by first | trivial | (simp [in64] <;> omega)) ?_)
      | (refine AWP.callQ e rfl rfl ?_; (first | refine CallQ.mk (hr) rfl rfl ?_ | refine CallQ.mk (hm) rfl rfl ?_ | refine CallQ.mk (hb) rfl rfl ?_); refine AWP.runL e tab_ok L10 300 rfl (by first | trivial | (simp [in64] <;> omega)) ?_)
    )
  refine AWP.ret e tab_ok rfl ?_
  rw [hP]
  all_goals first | rfl | (simp [strip]; done)

set_option maxRecDepth 100000 in
theorem putI_full (l : List (Int)) (c : Int) (x : Int) (h : rightR l.length c = true) (hc : (l.length : Int) = c) : Eff Try.prog 10 [ringI l c true, .d (.v (.int .i64 x))] [] 0 (fun r _ _ => r = .tup [ringI (l.drop 1 ++ [x]) c true, .i 1, .i 0]) := by
  have hr := rightI_eff l c true
  have hm := roomI_eff l c true h
  have hb := behindI_eff l x 1 (by have := rightR_get h; omega) (by have := rightR_get h; omega)
  rw [h] at hr
  refine eff_of Try.func10 rfl rfl rfl fun cx e hP => ?_
  refine AWP.runL e tab_ok L10 300 rfl (by first | trivial | (simp [in64] <;> omega)) ?_
  repeat (
    first
      | (refine AWP.askT rfl ?_; (first | (refine Told.t rfl ?_) | (refine Told.f rfl ?_) | (refine Told.t ?_ ?_; (focus (first | assumption | (simp; omega) | (simp [*]; done)); done)) | (refine Told.f ?_ ?_; (focus (first | assumption | (simp; omega) | (simp [*]; done)); done))); refine AWP.runL e tab_ok L10 300 rfl (by first | trivial | (simp [in64] <;> omega)) ?_)
      | (refine AWP.callQ e rfl rfl ?_; (first | refine CallQ.mk (hr) rfl rfl ?_ | refine CallQ.mk (hm) rfl rfl ?_ | refine CallQ.mk (hb) rfl rfl ?_); refine AWP.runL e tab_ok L10 300 rfl (by first | trivial | (simp [in64] <;> omega)) ?_)
    )
  refine AWP.ret e tab_ok rfl ?_
  rw [hP]
  all_goals first | rfl | (simp [strip]; done)

set_option maxRecDepth 100000 in
theorem putI_busy (l : List (Int)) (c : Int) (x : Int) (h : rightR l.length c = true) (hc : (l.length : Int) = c) : Eff Try.prog 10 [ringI l c false, .d (.v (.int .i64 x))] [] 0 (fun r _ _ => r = .tup [ringI [] 0 false, .i 0, .i 20]) := by
  have hr := rightI_eff l c false
  have hm := roomI_eff l c false h
  rw [h] at hr
  refine eff_of Try.func10 rfl rfl rfl fun cx e hP => ?_
  refine AWP.runL e tab_ok L10 300 rfl (by first | trivial | (simp [in64] <;> omega)) ?_
  repeat (
    first
      | (refine AWP.askT rfl ?_; (first | (refine Told.t rfl ?_) | (refine Told.f rfl ?_) | (refine Told.t ?_ ?_; (focus (first | assumption | (simp; omega) | (simp [*]; done)); done)) | (refine Told.f ?_ ?_; (focus (first | assumption | (simp; omega) | (simp [*]; done)); done))); refine AWP.runL e tab_ok L10 300 rfl (by first | trivial | (simp [in64] <;> omega)) ?_)
      | (refine AWP.callQ e rfl rfl ?_; (first | refine CallQ.mk (hr) rfl rfl ?_ | refine CallQ.mk (hm) rfl rfl ?_); refine AWP.runL e tab_ok L10 300 rfl (by first | trivial | (simp [in64] <;> omega)) ?_)
    )
  refine AWP.retW e tab_ok rfl (r' := .tup [ringI [] 0 false, .i 0, .i 20]) ?_ ?_
  (focus (repeat' (first | exact WkL.nil | (refine WkL.cons ?_ ?_) | exact Wk.refl _ | exact Wk.nil _ | (refine Wk.aggL ?_) | (refine Wk.tupL ?_))))
  rw [hP]

set_option maxRecDepth 100000 in
theorem putI_bad (l : List (Int)) (c : Int) (b : Bool) (x : Int) (h : rightR l.length c = false) : Eff Try.prog 10 [ringI l c b, .d (.v (.int .i64 x))] [] 0 (fun r _ _ => r = .tup [ringI [] 0 false, .i 0, .i 1]) := by
  have hr := rightI_eff l c b
  rw [h] at hr
  refine eff_of Try.func10 rfl rfl rfl fun cx e hP => ?_
  refine AWP.runL e tab_ok L10 300 rfl (by first | trivial | (simp [in64] <;> omega)) ?_
  repeat (
    first
      | (refine AWP.askT rfl ?_; (first | (refine Told.t rfl ?_) | (refine Told.f rfl ?_) | (refine Told.t ?_ ?_; (focus (first | assumption | (simp; omega) | (simp [*]; done)); done)) | (refine Told.f ?_ ?_; (focus (first | assumption | (simp; omega) | (simp [*]; done)); done))); refine AWP.runL e tab_ok L10 300 rfl (by first | trivial | (simp [in64] <;> omega)) ?_)
      | (refine AWP.callQ e rfl rfl ?_; (first | refine CallQ.mk (hr) rfl rfl ?_); refine AWP.runL e tab_ok L10 300 rfl (by first | trivial | (simp [in64] <;> omega)) ?_)
    )
  refine AWP.retW e tab_ok rfl (r' := .tup [ringI [] 0 false, .i 0, .i 1]) ?_ ?_
  (focus (repeat' (first | exact WkL.nil | (refine WkL.cons ?_ ?_) | exact Wk.refl _ | exact Wk.nil _ | (refine Wk.aggL ?_) | (refine Wk.tupL ?_))))
  rw [hP]

set_option maxRecDepth 100000 in
theorem takeI_ok (l : List (Int)) (c : Int) (b : Bool) (x : Int) (h : rightR (x :: l).length c = true) : Eff Try.prog 9 [ringI (x :: l) c b] [] 0 (fun r _ _ => r = .tup [ringI l c b, .d (.v (.int .i64 x)), .i 0]) := by
  have hr := rightI_eff (x :: l) c b
  rw [h] at hr
  refine eff_of Try.func9 rfl rfl rfl fun cx e hP => ?_
  refine AWP.runL e tab_ok L9 300 rfl (by first | trivial | (simp [in64] <;> omega)) ?_
  repeat (
    first
      | (refine AWP.askT rfl ?_; (first | (refine Told.t rfl ?_) | (refine Told.f rfl ?_) | (refine Told.t ?_ ?_; (focus (first | assumption | (simp; omega) | (simp [*]; done)); done)) | (refine Told.f ?_ ?_; (focus (first | assumption | (simp; omega) | (simp [*]; done)); done))); refine AWP.runL e tab_ok L9 300 rfl (by first | trivial | (simp [in64] <;> omega)) ?_)
      | (refine AWP.callQ e rfl rfl ?_; (first | refine CallQ.mk (hr) rfl rfl ?_); refine AWP.runL e tab_ok L9 300 rfl (by first | trivial | (simp [in64] <;> omega)) ?_)
    )
  refine AWP.idx e tab_ok rfl rfl rfl rfl 0 rfl (el := [.v (.int .i64 x)]) rfl ?_
  refine AWP.runL e tab_ok L9 300 rfl ?_ ?_
  · simp; omega
  refine AWP.retW e tab_ok (r' := .tup [ringI l c b, .d (.v (.int .i64 x)), .i 0]) rfl ?_ ?_
  · have e1 : List.drop ((some (1 : Int)).getD 0).toNat (List.take ((none : Option Int).getD ((rowI (x :: l)).length : Int)).toNat (rowI (x :: l))) = rowI l := (drop_map _ 1 _ (x :: l) (by simp)).trans rfl
    refine Wk.tupL (.cons (Wk.aggL (.cons ?_ (.cons (.refl _) (.cons (.refl _) .nil)))) (.cons (.refl _) (.cons (.refl _) .nil)))
    exact e1 ▸ Wk.refl _
  rw [hP]

set_option maxRecDepth 100000 in
theorem takeI_none (c : Int) (b : Bool) (h : rightR 0 c = true) : Eff Try.prog 9 [ringI [] c b] [] 0 (fun r _ _ => r = .tup [ringI [] 0 false, .d (.v (.int .i64 0)), .i 21]) := by
  have hr := rightI_eff [] c b
  rw [show rightR ([] : List (Int)).length c = true from h] at hr
  refine eff_of Try.func9 rfl rfl rfl fun cx e hP => ?_
  refine AWP.runL e tab_ok L9 300 rfl (by first | trivial | (simp [in64] <;> omega)) ?_
  repeat (
    first
      | (refine AWP.askT rfl ?_; (first | (refine Told.t rfl ?_) | (refine Told.f rfl ?_) | (refine Told.t ?_ ?_; (focus (first | assumption | (simp; omega) | (simp [*]; done)); done)) | (refine Told.f ?_ ?_; (focus (first | assumption | (simp; omega) | (simp [*]; done)); done))); refine AWP.runL e tab_ok L9 300 rfl (by first | trivial | (simp [in64] <;> omega)) ?_)
      | (refine AWP.callQ e rfl rfl ?_; (first | refine CallQ.mk (hr) rfl rfl ?_); refine AWP.runL e tab_ok L9 300 rfl (by first | trivial | (simp [in64] <;> omega)) ?_)
    )
  refine AWP.retW e tab_ok rfl (r' := .tup [ringI [] 0 false, .d (.v (.int .i64 0)), .i 21]) ?_ ?_
  (focus (repeat' (first | exact WkL.nil | (refine WkL.cons ?_ ?_) | exact Wk.refl _ | exact Wk.nil _ | (refine Wk.aggL ?_) | (refine Wk.tupL ?_))))
  rw [hP]

set_option maxRecDepth 100000 in
theorem takeI_bad (l : List (Int)) (c : Int) (b : Bool) (h : rightR l.length c = false) : Eff Try.prog 9 [ringI l c b] [] 0 (fun r _ _ => r = .tup [ringI [] 0 false, .d (.v (.int .i64 0)), .i 1]) := by
  have hr := rightI_eff l c b
  rw [h] at hr
  refine eff_of Try.func9 rfl rfl rfl fun cx e hP => ?_
  refine AWP.runL e tab_ok L9 300 rfl (by first | trivial | (simp [in64] <;> omega)) ?_
  repeat (
    first
      | (refine AWP.askT rfl ?_; (first | (refine Told.t rfl ?_) | (refine Told.f rfl ?_) | (refine Told.t ?_ ?_; (focus (first | assumption | (simp; omega) | (simp [*]; done)); done)) | (refine Told.f ?_ ?_; (focus (first | assumption | (simp; omega) | (simp [*]; done)); done))); refine AWP.runL e tab_ok L9 300 rfl (by first | trivial | (simp [in64] <;> omega)) ?_)
      | (refine AWP.callQ e rfl rfl ?_; (first | refine CallQ.mk (hr) rfl rfl ?_); refine AWP.runL e tab_ok L9 300 rfl (by first | trivial | (simp [in64] <;> omega)) ?_)
    )
  refine AWP.retW e tab_ok rfl (r' := .tup [ringI [] 0 false, .d (.v (.int .i64 0)), .i 1]) ?_ ?_
  (focus (repeat' (first | exact WkL.nil | (refine WkL.cons ?_ ?_) | exact Wk.refl _ | exact Wk.nil _ | (refine Wk.aggL ?_) | (refine Wk.tupL ?_))))
  rw [hP]

set_option maxRecDepth 100000 in
theorem behindS_eff (l : List (ByteArray)) (x : ByteArray) (w : Nat) (hw : w ≤ l.length) (hl : l.length ≤ 100) : Eff Try.prog 25 [slS l, .d (.v (.string x)), .i w] [] 0 (fun r _ _ => r = slS (l.drop w ++ [x])) := by
  refine eff_of Try.func25 rfl rfl rfl fun cx e hP => ?_
  refine AWP.runL e tab_ok L25 300 rfl ?_ ?_
  · simp; omega
  obtain ⟨m, hm⟩ : ∃ m, m = l.drop w := ⟨_, rfl⟩
  have hml : m.length ≤ 100 := by rw [hm]; simp; omega
  refine AWP.less e (tm := [(9, slS m), (1, .d (.v (.string x)))]) (hp := []) (nx := 0) ?_ ?_ ?_ ?_ ?_ ?_
  · exact ⟨congrArg (fun z => some (SV.d (.sl 1 z))) ((drop_map _ w _ l (by simp)).trans (congrArg rowS hm.symm)), rfl, trivial⟩
  · exact trivial
  · rfl
  · exact trivial
  · rfl
  rw [← hm] at hP
  refine AWP.enter e rfl Try.func28 rfl rfl rfl rfl fun cx' e' hP' => ?_
  refine AWP.runL e' tab_ok L28 8 rfl (by trivial) ?_
  refine AWP.nilq e' tab_ok true rfl rfl rfl rfl rfl rfl (.inl ⟨rfl, rfl⟩) fun b hb => ?_
  refine AWP.runL e' tab_ok L28 300 rfl (by first | trivial | (simp [in64] <;> omega)) ?_
  cases b
  · refine AWP.cond rfl false rfl ?_
    refine AWP.runL e' tab_ok L28 300 rfl (by first | trivial | (simp [in64] <;> omega)) ?_
    refine AWP.append e' tab_ok rfl rfl rfl rfl rfl rfl rfl rfl (.sl (rowS m)) rfl (rowS_cells m) (by simp; omega) (by simp; omega) fun C2 hC2 => ?_
    refine AWP.runL e' tab_ok L28 300 rfl (by first | trivial | (simp [in64] <;> omega)) ?_
    refine AWP.ret e' tab_ok rfl ?_
    rw [hP']
    show AWP cx _ _
    refine AWP.runL e tab_ok L25 300 rfl (by first | trivial | (simp [in64] <;> omega)) ?_
    refine AWP.append e tab_ok rfl rfl rfl rfl rfl rfl rfl rfl (.own rfl (by simp)) (by simp) (by simp [allCells, isCell]) (by simp; omega) (by simp; omega) fun C3 hC3 => ?_
    refine AWP.runL e tab_ok L25 300 rfl (by first | trivial | (simp [in64] <;> omega)) ?_
    refine AWP.freezeO (id := 3) (rowS (m ++ [x])) rfl ?_ rfl rfl ?_ ?_ ?_
    (focus (simp))
    (focus (simp [lenDT, lenD, tput, strip]; done))
    (focus (simp [lenDH]; done))
    refine AWP.ret e tab_ok rfl ?_
    rw [hP]
    simp [strip, List.take_of_length_le]
  · refine AWP.cond rfl true rfl ?_
    refine AWP.runL e' tab_ok L28 300 rfl (by first | trivial | (simp [in64] <;> omega)) ?_
    refine AWP.ret e' tab_ok rfl ?_
    rw [hP']
    show AWP cx _ _
    refine AWP.runL e tab_ok L25 300 rfl (by first | trivial | (simp [in64] <;> omega)) ?_
    have hb' : (rowS m).length = 0 := hb rfl
    obtain rfl : m = [] := List.eq_nil_of_length_eq_zero (by simpa using hb')
    refine AWP.nil_own (t := 10) rfl 9 1 ?_
    refine AWP.append e tab_ok rfl rfl rfl rfl rfl rfl rfl rfl (.own rfl (by simp)) (by simp) (by simp [allCells, isCell]) (by simp) (by simp) fun C3 hC3 => ?_
    refine AWP.runL e tab_ok L25 300 rfl (by first | trivial | (simp [in64] <;> omega)) ?_
    refine AWP.freezeO (id := 2) (rowS [x]) rfl ?_ rfl rfl ?_ ?_ ?_
    (focus (rfl))
    (focus (simp [lenDT, lenD, tput, strip]; done))
    (focus (simp [lenDH]; done))
    refine AWP.ret e tab_ok rfl ?_
    rw [hP]
    simp [strip, List.take_of_length_le]

set_option maxRecDepth 100000 in
theorem putS_ok (l : List (ByteArray)) (c : Int) (b : Bool) (x : ByteArray) (h : rightR l.length c = true) (hc : (l.length : Int) < c) : Eff Try.prog 13 [ringS l c b, .d (.v (.string x))] [] 0 (fun r _ _ => r = .tup [ringS (l ++ [x]) c b, .i 0, .i 0]) := by
  have hr := rightS_eff l c b
  have hm := roomS_eff l c b h
  have hb := behindS_eff l x 0 (by omega) (by have := rightR_get h; omega)
  rw [List.drop_zero] at hb
  rw [h] at hr
  refine eff_of Try.func13 rfl rfl rfl fun cx e hP => ?_
  refine AWP.runL e tab_ok L13 300 rfl (by first | trivial | (simp [in64] <;> omega)) ?_
  repeat (
    first
      | (refine AWP.askT rfl ?_; (first | (refine Told.t rfl ?_) | (refine Told.f rfl ?_) | (refine Told.t ?_ ?_; (focus (first | assumption | (simp; omega) | (simp [*]; done)); done)) | (refine Told.f ?_ ?_; (focus (first | assumption | (simp; omega) | (simp [*]; done)); done))); refine AWP.runL e tab_ok L13 300 rfl (by first | trivial | (simp [in64] <;> omega)) ?_)
      | (refine AWP.callQ e rfl rfl ?_; (first | refine CallQ.mk (hr) rfl rfl ?_ | refine CallQ.mk (hm) rfl rfl ?_ | refine CallQ.mk (hb) rfl rfl ?_); refine AWP.runL e tab_ok L13 300 rfl (by first | trivial | (simp [in64] <;> omega)) ?_)
    )
  refine AWP.ret e tab_ok rfl ?_
  rw [hP]
  all_goals first | rfl | (simp [strip]; done)

set_option maxRecDepth 100000 in
theorem putS_full (l : List (ByteArray)) (c : Int) (x : ByteArray) (h : rightR l.length c = true) (hc : (l.length : Int) = c) : Eff Try.prog 13 [ringS l c true, .d (.v (.string x))] [] 0 (fun r _ _ => r = .tup [ringS (l.drop 1 ++ [x]) c true, .i 1, .i 0]) := by
  have hr := rightS_eff l c true
  have hm := roomS_eff l c true h
  have hb := behindS_eff l x 1 (by have := rightR_get h; omega) (by have := rightR_get h; omega)
  rw [h] at hr
  refine eff_of Try.func13 rfl rfl rfl fun cx e hP => ?_
  refine AWP.runL e tab_ok L13 300 rfl (by first | trivial | (simp [in64] <;> omega)) ?_
  repeat (
    first
      | (refine AWP.askT rfl ?_; (first | (refine Told.t rfl ?_) | (refine Told.f rfl ?_) | (refine Told.t ?_ ?_; (focus (first | assumption | (simp; omega) | (simp [*]; done)); done)) | (refine Told.f ?_ ?_; (focus (first | assumption | (simp; omega) | (simp [*]; done)); done))); refine AWP.runL e tab_ok L13 300 rfl (by first | trivial | (simp [in64] <;> omega)) ?_)
      | (refine AWP.callQ e rfl rfl ?_; (first | refine CallQ.mk (hr) rfl rfl ?_ | refine CallQ.mk (hm) rfl rfl ?_ | refine CallQ.mk (hb) rfl rfl ?_); refine AWP.runL e tab_ok L13 300 rfl (by first | trivial | (simp [in64] <;> omega)) ?_)
    )
  refine AWP.ret e tab_ok rfl ?_
  rw [hP]
  all_goals first | rfl | (simp [strip]; done)

set_option maxRecDepth 100000 in
theorem putS_busy (l : List (ByteArray)) (c : Int) (x : ByteArray) (h : rightR l.length c = true) (hc : (l.length : Int) = c) : Eff Try.prog 13 [ringS l c false, .d (.v (.string x))] [] 0 (fun r _ _ => r = .tup [ringS [] 0 false, .i 0, .i 20]) := by
  have hr := rightS_eff l c false
  have hm := roomS_eff l c false h
  rw [h] at hr
  refine eff_of Try.func13 rfl rfl rfl fun cx e hP => ?_
  refine AWP.runL e tab_ok L13 300 rfl (by first | trivial | (simp [in64] <;> omega)) ?_
  repeat (
    first
      | (refine AWP.askT rfl ?_; (first | (refine Told.t rfl ?_) | (refine Told.f rfl ?_) | (refine Told.t ?_ ?_; (focus (first | assumption | (simp; omega) | (simp [*]; done)); done)) | (refine Told.f ?_ ?_; (focus (first | assumption | (simp; omega) | (simp [*]; done)); done))); refine AWP.runL e tab_ok L13 300 rfl (by first | trivial | (simp [in64] <;> omega)) ?_)
      | (refine AWP.callQ e rfl rfl ?_; (first | refine CallQ.mk (hr) rfl rfl ?_ | refine CallQ.mk (hm) rfl rfl ?_); refine AWP.runL e tab_ok L13 300 rfl (by first | trivial | (simp [in64] <;> omega)) ?_)
    )
  refine AWP.retW e tab_ok rfl (r' := .tup [ringS [] 0 false, .i 0, .i 20]) ?_ ?_
  (focus (repeat' (first | exact WkL.nil | (refine WkL.cons ?_ ?_) | exact Wk.refl _ | exact Wk.nil _ | (refine Wk.aggL ?_) | (refine Wk.tupL ?_))))
  rw [hP]

set_option maxRecDepth 100000 in
theorem putS_bad (l : List (ByteArray)) (c : Int) (b : Bool) (x : ByteArray) (h : rightR l.length c = false) : Eff Try.prog 13 [ringS l c b, .d (.v (.string x))] [] 0 (fun r _ _ => r = .tup [ringS [] 0 false, .i 0, .i 1]) := by
  have hr := rightS_eff l c b
  rw [h] at hr
  refine eff_of Try.func13 rfl rfl rfl fun cx e hP => ?_
  refine AWP.runL e tab_ok L13 300 rfl (by first | trivial | (simp [in64] <;> omega)) ?_
  repeat (
    first
      | (refine AWP.askT rfl ?_; (first | (refine Told.t rfl ?_) | (refine Told.f rfl ?_) | (refine Told.t ?_ ?_; (focus (first | assumption | (simp; omega) | (simp [*]; done)); done)) | (refine Told.f ?_ ?_; (focus (first | assumption | (simp; omega) | (simp [*]; done)); done))); refine AWP.runL e tab_ok L13 300 rfl (by first | trivial | (simp [in64] <;> omega)) ?_)
      | (refine AWP.callQ e rfl rfl ?_; (first | refine CallQ.mk (hr) rfl rfl ?_); refine AWP.runL e tab_ok L13 300 rfl (by first | trivial | (simp [in64] <;> omega)) ?_)
    )
  refine AWP.retW e tab_ok rfl (r' := .tup [ringS [] 0 false, .i 0, .i 1]) ?_ ?_
  (focus (repeat' (first | exact WkL.nil | (refine WkL.cons ?_ ?_) | exact Wk.refl _ | exact Wk.nil _ | (refine Wk.aggL ?_) | (refine Wk.tupL ?_))))
  rw [hP]

set_option maxRecDepth 100000 in
theorem takeS_ok (l : List (ByteArray)) (c : Int) (b : Bool) (x : ByteArray) (h : rightR (x :: l).length c = true) : Eff Try.prog 14 [ringS (x :: l) c b] [] 0 (fun r _ _ => r = .tup [ringS l c b, .d (.v (.string x)), .i 0]) := by
  have hr := rightS_eff (x :: l) c b
  rw [h] at hr
  refine eff_of Try.func14 rfl rfl rfl fun cx e hP => ?_
  refine AWP.runL e tab_ok L14 300 rfl (by first | trivial | (simp [in64] <;> omega)) ?_
  repeat (
    first
      | (refine AWP.askT rfl ?_; (first | (refine Told.t rfl ?_) | (refine Told.f rfl ?_) | (refine Told.t ?_ ?_; (focus (first | assumption | (simp; omega) | (simp [*]; done)); done)) | (refine Told.f ?_ ?_; (focus (first | assumption | (simp; omega) | (simp [*]; done)); done))); refine AWP.runL e tab_ok L14 300 rfl (by first | trivial | (simp [in64] <;> omega)) ?_)
      | (refine AWP.callQ e rfl rfl ?_; (first | refine CallQ.mk (hr) rfl rfl ?_); refine AWP.runL e tab_ok L14 300 rfl (by first | trivial | (simp [in64] <;> omega)) ?_)
    )
  refine AWP.idx e tab_ok rfl rfl rfl rfl 0 rfl (el := [.v (.string x)]) rfl ?_
  refine AWP.runL e tab_ok L14 300 rfl ?_ ?_
  · simp; omega
  refine AWP.retW e tab_ok (r' := .tup [ringS l c b, .d (.v (.string x)), .i 0]) rfl ?_ ?_
  · have e1 : List.drop ((some (1 : Int)).getD 0).toNat (List.take ((none : Option Int).getD ((rowS (x :: l)).length : Int)).toNat (rowS (x :: l))) = rowS l := (drop_map _ 1 _ (x :: l) (by simp)).trans rfl
    refine Wk.tupL (.cons (Wk.aggL (.cons ?_ (.cons (.refl _) (.cons (.refl _) .nil)))) (.cons (.refl _) (.cons (.refl _) .nil)))
    exact e1 ▸ Wk.refl _
  rw [hP]

set_option maxRecDepth 100000 in
theorem takeS_none (c : Int) (b : Bool) (h : rightR 0 c = true) : Eff Try.prog 14 [ringS [] c b] [] 0 (fun r _ _ => r = .tup [ringS [] 0 false, .d (.v (.string .empty)), .i 21]) := by
  have hr := rightS_eff [] c b
  rw [show rightR ([] : List (ByteArray)).length c = true from h] at hr
  refine eff_of Try.func14 rfl rfl rfl fun cx e hP => ?_
  refine AWP.runL e tab_ok L14 300 rfl (by first | trivial | (simp [in64] <;> omega)) ?_
  repeat (
    first
      | (refine AWP.askT rfl ?_; (first | (refine Told.t rfl ?_) | (refine Told.f rfl ?_) | (refine Told.t ?_ ?_; (focus (first | assumption | (simp; omega) | (simp [*]; done)); done)) | (refine Told.f ?_ ?_; (focus (first | assumption | (simp; omega) | (simp [*]; done)); done))); refine AWP.runL e tab_ok L14 300 rfl (by first | trivial | (simp [in64] <;> omega)) ?_)
      | (refine AWP.callQ e rfl rfl ?_; (first | refine CallQ.mk (hr) rfl rfl ?_); refine AWP.runL e tab_ok L14 300 rfl (by first | trivial | (simp [in64] <;> omega)) ?_)
    )
  refine AWP.retW e tab_ok rfl (r' := .tup [ringS [] 0 false, .d (.v (.string .empty)), .i 21]) ?_ ?_
  (focus (repeat' (first | exact WkL.nil | (refine WkL.cons ?_ ?_) | exact Wk.refl _ | exact Wk.nil _ | (refine Wk.aggL ?_) | (refine Wk.tupL ?_))))
  rw [hP]

set_option maxRecDepth 100000 in
theorem takeS_bad (l : List (ByteArray)) (c : Int) (b : Bool) (h : rightR l.length c = false) : Eff Try.prog 14 [ringS l c b] [] 0 (fun r _ _ => r = .tup [ringS [] 0 false, .d (.v (.string .empty)), .i 1]) := by
  have hr := rightS_eff l c b
  rw [h] at hr
  refine eff_of Try.func14 rfl rfl rfl fun cx e hP => ?_
  refine AWP.runL e tab_ok L14 300 rfl (by first | trivial | (simp [in64] <;> omega)) ?_
  repeat (
    first
      | (refine AWP.askT rfl ?_; (first | (refine Told.t rfl ?_) | (refine Told.f rfl ?_) | (refine Told.t ?_ ?_; (focus (first | assumption | (simp; omega) | (simp [*]; done)); done)) | (refine Told.f ?_ ?_; (focus (first | assumption | (simp; omega) | (simp [*]; done)); done))); refine AWP.runL e tab_ok L14 300 rfl (by first | trivial | (simp [in64] <;> omega)) ?_)
      | (refine AWP.callQ e rfl rfl ?_; (first | refine CallQ.mk (hr) rfl rfl ?_); refine AWP.runL e tab_ok L14 300 rfl (by first | trivial | (simp [in64] <;> omega)) ?_)
    )
  refine AWP.retW e tab_ok rfl (r' := .tup [ringS [] 0 false, .d (.v (.string .empty)), .i 1]) ?_ ?_
  (focus (repeat' (first | exact WkL.nil | (refine WkL.cons ?_ ?_) | exact Wk.refl _ | exact Wk.nil _ | (refine Wk.aggL ?_) | (refine Wk.tupL ?_))))
  rw [hP]

end Go.Proofs.Ytkcdmibpmoknmaa
