import Derived.Test.YtkcdmibpmoknmaaF7
open Go Go.Proofs Go.Sy
namespace Go.Proofs.Ytkcdmibpmoknmaa

theorem is_self (l : List ByteArray) (c : Int) (b : Bool) (hl : l.length ≤ 100) : Eff Try.prog 18 [ringS l c b, slS l, .i c, .b b] [] 0 (fun r _ _ => r = .b true) := by
  have h := is_eff l l c c b b (by omega)
  rwa [show (decide (l = l) && c == c && b == b) = true by simp] at h

set_option maxRecDepth 100000 in
theorem is_none (c : Int) (b : Bool) : Eff Try.prog 18 [ringS [] c b, .d .nil, .i c, .b b] [] 0 (fun r _ _ => r = .b true) := by
  have h := sameS_eff [] [] (by simp)
  rw [decide_eq_true rfl] at h
  refine eff_of Try.func18 rfl rfl rfl fun cx e hP => ?_
  refine AWP.runL e tab_ok L18 300 rfl (by first | trivial | (simp [in64] <;> omega)) ?_
  refine AWP.callQ e rfl rfl ?_
  refine CallQ.mkV (h) (fun _ => (by repeat' (first | exact CvL.nil | (refine CvL.cons ?_ ?_) | exact Cv.refl _ | exact Cv.nil _ | (refine Cv.aggL ?_)))) rfl rfl ?_
  refine AWP.runL e tab_ok L18 300 rfl (by first | trivial | (simp [in64] <;> omega)) ?_
  repeat (
    first
      | (refine AWP.askT rfl ?_; (first | (refine Told.t rfl ?_) | (refine Told.f rfl ?_) | (refine Told.t ?_ ?_; (focus (first | assumption | (simp; omega) | (simp [*]; done)); done)) | (refine Told.f ?_ ?_; (focus (first | assumption | (simp; omega) | (simp [*]; done)); done))); refine AWP.runL e tab_ok L18 300 rfl (by first | trivial | (simp [in64] <;> omega)) ?_)
    )
  refine AWP.ret e tab_ok rfl ?_
  rw [hP]
  all_goals first | rfl | (simp [strip]; done)

theorem takeS_nil (l : List ByteArray) (c : Int) (b : Bool) (hz : l = []) (h : rightR l.length c = true) : Eff Try.prog 14 [ringS l c b] [] 0 (fun r _ _ => r = .tup [ringS [] 0 false, .d (.v (.string .empty)), .i 21]) := by
  subst hz
  exact takeS_none c b h

theorem takeS_cons (l : List ByteArray) (c : Int) (b : Bool) (y : ByteArray) (l' : List ByteArray) (hz : l = y :: l') (h : rightR l.length c = true) : Eff Try.prog 14 [ringS l c b] [] 0 (fun r _ _ => r = .tup [ringS l' c b, .d (.v (.string y)), .i 0]) := by
  subst hz
  exact takeS_ok l' c b y h
theorem putS_fullb (l : List ByteArray) (c : Int) (b : Bool) (x : ByteArray) (h : rightR l.length c = true) (hc : (l.length : Int) = c) (hb : b = true) : Eff Try.prog 13 [ringS l c b, .d (.v (.string x))] [] 0 (fun r _ _ => r = .tup [ringS (l.drop 1 ++ [x]) c b, .i 1, .i 0]) := by
  subst hb
  exact putS_full l c x h hc
theorem putS_busyb (l : List ByteArray) (c : Int) (b : Bool) (x : ByteArray) (h : rightR l.length c = true) (hc : (l.length : Int) = c) (hb : b = false) : Eff Try.prog 13 [ringS l c b, .d (.v (.string x))] [] 0 (fun r _ _ => r = .tup [ringS [] 0 false, .i 0, .i 20]) := by
  subst hb
  exact putS_busy l c x h hc
theorem refPut_busyb (l : List ByteArray) (c : Int) (b : Bool) (x : ByteArray) (hc : (l.length : Int) = c) (hb : b = false) : Eff Try.prog 21 [slS l, .i c, .b b, .d (.v (.string x))] [] 0 (fun r _ _ => r = .tup [slS [], .i 0, .i 20]) := by
  subst hb
  exact refPut_busy l c x hc

set_option maxRecDepth 100000 in
set_option maxHeartbeats 4000000 in
theorem calls_b1 (size c : Int) (b : Bool) (l0 l : List ByteArray) (x : ByteArray) (hl0 : l0.length ≤ 9223372036854775807) (hl : l = l0.take 20) (ll : l.length ≤ 20) (hr : rightR l.length c = false) (h1 : 1 ≤ size) (h2 : size ≤ 16) :
    Eff Try.prog 5 [.i size, ringS l0 c b, .d (.v (.string x))] [] 0 (fun r _ _ => r = .b true) := by
  have hN := newS_ok size b h1 h2
  have hQ := putS_bad l c b x hr
  have hT := takeS_bad l c b hr
  have hE := each_bad l c b 16 hr
  have hR := refRight_eff l c
  have hR' := rightS_eff l c b
  have hM := roomS_bad l c b hr
  have i1 := is_none 0 false
  have i2 := is_none size b
  rw [hr] at hR hR'
  refine eff_of Try.func5 rfl rfl rfl fun cx e hP => ?_
  refine AWP.runL e tab_ok L5 300 rfl (by first | trivial | (simp [] <;> omega)) ?_
  refine AWP.less e (tm := [(33, .i size), (35, .b b), (0, .i size), (2, .d (.v (.string x))), (4, .ptr 0 0), (6, .b false)]) (hp := [(0, .box [slS l, .i c, .b b])]) (nx := 1) ?_ ?_ ?_ ?_ ?_ ?_
  · exact ⟨rfl, rfl, rfl, rfl, rfl, rfl, trivial⟩
  · refine ⟨?_, trivial⟩
    exact congrArg (fun z => some (Blk.box [SV.d (.sl 1 z), .i c, .b b])) ((take_map _ 20 l0 (by omega)).trans (congrArg rowS hl.symm))
  · rfl
  · exact ⟨rfl, rfl, trivial⟩
  · rfl
  repeat (
    first
      | (refine AWP.askT rfl ?_; (first | (refine Told.t rfl ?_) | (refine Told.f rfl ?_) | (refine Told.t ?_ ?_; (focus (first | assumption | (simp; omega) | (simp [*]; done)); done)) | (refine Told.f ?_ ?_; (focus (first | assumption | (simp; omega) | (simp [*]; done)); done))); refine AWP.runL e tab_ok L5 300 rfl (by first | trivial | (simp [in64] <;> omega)) ?_)
      | (refine AWP.callQ e rfl rfl ?_; (first | refine CallQ.mk (hN) rfl rfl ?_ | refine CallQ.mk (hQ) rfl rfl ?_ | refine CallQ.mk (hT) rfl rfl ?_ | refine CallQ.mk (hE) rfl rfl ?_ | refine CallQ.mk (hR) rfl rfl ?_ | refine CallQ.mk (hR') rfl rfl ?_ | refine CallQ.mk (hM) rfl rfl ?_ | refine CallQ.mk (i1) rfl rfl ?_ | refine CallQ.mk (i2) rfl rfl ?_ | refine CallQ.mk (alive_eff) rfl rfl ?_); refine AWP.runL e tab_ok L5 300 rfl (by first | trivial | (simp [in64] <;> omega)) ?_)
      | (refine AWP.keep L5 rfl ?_; refine AWP.drg 100 ?_; (refine DrG.runN e tab_ok 200 rfl (by first | trivial | (simp [in64] <;> omega)) ?_); (repeat (first | (refine DrG.callQ e rfl rfl ?_; (first | refine CallVQ.mk (hN) rfl rfl ?_ | refine CallVQ.mk (hQ) rfl rfl ?_ | refine CallVQ.mk (hT) rfl rfl ?_ | refine CallVQ.mk (hE) rfl rfl ?_ | refine CallVQ.mk (hR) rfl rfl ?_ | refine CallVQ.mk (hR') rfl rfl ?_ | refine CallVQ.mk (hM) rfl rfl ?_ | refine CallVQ.mk (i1) rfl rfl ?_ | refine CallVQ.mk (i2) rfl rfl ?_ | refine CallVQ.mk (alive_eff) rfl rfl ?_); (refine DrG.runN e tab_ok 200 rfl (by first | trivial | (simp [in64] <;> omega)) ?_)) | (refine DrG.callGo e rfl rfl rfl ?_; (first | refine CallVQ.mk (hN) rfl rfl ?_ | refine CallVQ.mk (hQ) rfl rfl ?_ | refine CallVQ.mk (hT) rfl rfl ?_ | refine CallVQ.mk (hE) rfl rfl ?_ | refine CallVQ.mk (hR) rfl rfl ?_ | refine CallVQ.mk (hR') rfl rfl ?_ | refine CallVQ.mk (hM) rfl rfl ?_ | refine CallVQ.mk (i1) rfl rfl ?_ | refine CallVQ.mk (i2) rfl rfl ?_ | refine CallVQ.mk (alive_eff) rfl rfl ?_); (refine DrG.runN e tab_ok 200 rfl (by first | trivial | (simp [in64] <;> omega)) ?_)) | (refine DrG.callGoA e rfl ?_ rfl rfl ?_; (focus (first | assumption | with_reducible trivial | rfl | (simp; omega) | (simp [in64]; omega) | (simp [*]; done))); (first | refine CallVQ.mk (hN) rfl rfl ?_ | refine CallVQ.mk (hQ) rfl rfl ?_ | refine CallVQ.mk (hT) rfl rfl ?_ | refine CallVQ.mk (hE) rfl rfl ?_ | refine CallVQ.mk (hR) rfl rfl ?_ | refine CallVQ.mk (hR') rfl rfl ?_ | refine CallVQ.mk (hM) rfl rfl ?_ | refine CallVQ.mk (i1) rfl rfl ?_ | refine CallVQ.mk (i2) rfl rfl ?_ | refine CallVQ.mk (alive_eff) rfl rfl ?_); (refine DrG.runN e tab_ok 200 rfl (by first | trivial | (simp [in64] <;> omega)) ?_)) | (refine DrG.v rfl (fun _ => VStep.goA rfl ?_ (VStep.ev e tab_ok rfl rfl ?_)) rfl ?_; (focus (first | rfl | assumption | (simp; done))); (focus (first | assumption | with_reducible trivial | rfl | (simp; omega) | (simp [in64]; omega) | (simp [*]; done))); (refine DrG.runN e tab_ok 200 rfl (by first | trivial | (simp [in64] <;> omega)) ?_)) | (refine DrG.loadGoA e tab_ok rfl ?_ rfl rfl rfl rfl rfl rfl ?_; (focus (first | rfl | assumption | (simp; done))); (refine DrG.runN e tab_ok 200 rfl (by first | trivial | (simp [in64] <;> omega)) ?_)) | (refine DrG.v rfl (fun _ => VStep.notA e rfl rfl ?_) rfl ?_; (focus (first | rfl | assumption | (simp; done))); (refine DrG.runN e tab_ok 200 rfl (by first | trivial | (simp [in64] <;> omega)) ?_)) | (refine DrG.v rfl (fun _ => VStep.pickA e rfl rfl (v := true) ?_ rfl) rfl ?_; (focus (first | rfl | assumption | (simp; done))); (refine DrG.runN e tab_ok 200 rfl (by first | trivial | (simp [in64] <;> omega)) ?_)) | (refine DrG.v rfl (fun _ => VStep.pickA e rfl rfl (v := false) ?_ rfl) rfl ?_; (focus (first | rfl | assumption | (simp; done))); (refine DrG.runN e tab_ok 200 rfl (by first | trivial | (simp [in64] <;> omega)) ?_)) | (refine DrG.v rfl (fun _ => VStep.goA rfl ?_ (VStep.ev e tab_ok rfl rfl ?_)) rfl ?_; (focus (first | assumption | with_reducible trivial | rfl | (simp; omega) | (simp [in64]; omega) | (simp [*]; done))); (focus (first | assumption | with_reducible trivial | rfl | (simp; omega) | (simp [in64]; omega) | (simp [*]; done))); (refine DrG.runN e tab_ok 200 rfl (by first | trivial | (simp [in64] <;> omega)) ?_)) | (refine DrG.loadGoA e tab_ok rfl ?_ rfl rfl rfl rfl rfl rfl ?_; (focus (first | assumption | with_reducible trivial | rfl | (simp; omega) | (simp [in64]; omega) | (simp [*]; done))); (refine DrG.runN e tab_ok 200 rfl (by first | trivial | (simp [in64] <;> omega)) ?_)) | (refine DrG.v rfl (fun _ => VStep.notA e rfl rfl ?_) rfl ?_; (focus (first | assumption | with_reducible trivial | rfl | (simp; omega) | (simp [in64]; omega) | (simp [*]; done))); (refine DrG.runN e tab_ok 200 rfl (by first | trivial | (simp [in64] <;> omega)) ?_)) | (refine DrG.v rfl (fun _ => VStep.pickA e rfl rfl (v := true) ?_ rfl) rfl ?_; (focus (first | assumption | with_reducible trivial | rfl | (simp; omega) | (simp [in64]; omega) | (simp [*]; done))); (refine DrG.runN e tab_ok 200 rfl (by first | trivial | (simp [in64] <;> omega)) ?_)) | (refine DrG.v rfl (fun _ => VStep.pickA e rfl rfl (v := false) ?_ rfl) rfl ?_; (focus (first | assumption | with_reducible trivial | rfl | (simp; omega) | (simp [in64]; omega) | (simp [*]; done))); (refine DrG.runN e tab_ok 200 rfl (by first | trivial | (simp [in64] <;> omega)) ?_)) | (refine DrG.v rfl (fun _ => VStep.goA rfl ?_ (VStep.pickA e rfl rfl (v := true) ?_ rfl)) rfl ?_; (focus (first | assumption | with_reducible trivial | rfl | (simp; omega) | (simp [in64]; omega) | (simp [*]; done))); (focus (first | assumption | with_reducible trivial | rfl | (simp; omega) | (simp [in64]; omega) | (simp [*]; done))); (refine DrG.runN e tab_ok 200 rfl (by first | trivial | (simp [in64] <;> omega)) ?_)) | (refine DrG.v rfl (fun _ => VStep.go rfl (VStep.pickA e rfl rfl (v := true) ?_ rfl)) rfl ?_; (focus (first | assumption | with_reducible trivial | rfl | (simp; omega) | (simp [in64]; omega) | (simp [*]; done))); (refine DrG.runN e tab_ok 200 rfl (by first | trivial | (simp [in64] <;> omega)) ?_)) | (refine DrG.v rfl (fun _ => VStep.goA rfl ?_ (VStep.pickA e rfl rfl (v := false) ?_ rfl)) rfl ?_; (focus (first | assumption | with_reducible trivial | rfl | (simp; omega) | (simp [in64]; omega) | (simp [*]; done))); (focus (first | assumption | with_reducible trivial | rfl | (simp; omega) | (simp [in64]; omega) | (simp [*]; done))); (refine DrG.runN e tab_ok 200 rfl (by first | trivial | (simp [in64] <;> omega)) ?_)) | (refine DrG.v rfl (fun _ => VStep.go rfl (VStep.pickA e rfl rfl (v := false) ?_ rfl)) rfl ?_; (focus (first | assumption | with_reducible trivial | rfl | (simp; omega) | (simp [in64]; omega) | (simp [*]; done))); (refine DrG.runN e tab_ok 200 rfl (by first | trivial | (simp [in64] <;> omega)) ?_)))); refine DrG.fin e rfl ?_ rfl rfl rfl ?_ ?_; (focus kernel_rfl); (focus (repeat' (first | exact True.intro | (refine And.intro ?_ ?_) | rfl | assumption | exact okRow _))); dsimp only [tmS, hpS, tput, effH]; refine AWP.runL e tab_ok L5 300 rfl (by first | trivial | (simp [in64] <;> omega)) ?_)
    )
  refine AWP.ret e tab_ok rfl ?_
  rw [hP]
  all_goals first | rfl | (simp [strip]; done)

set_option maxRecDepth 100000 in
set_option maxHeartbeats 4000000 in
theorem calls_b2 (size c : Int) (b : Bool) (l0 l : List ByteArray) (x : ByteArray) (hl0 : l0.length ≤ 9223372036854775807) (hl : l = l0.take 20) (ll : l.length ≤ 20) (hr : rightR l.length c = false) (h1 : size < 1) :
    Eff Try.prog 5 [.i size, ringS l0 c b, .d (.v (.string x))] [] 0 (fun r _ _ => r = .b true) := by
  have hN := newS_bad size b (.inl h1)
  have hQ := putS_bad l c b x hr
  have hT := takeS_bad l c b hr
  have hE := each_bad l c b 16 hr
  have hR := refRight_eff l c
  have hR' := rightS_eff l c b
  have hM := roomS_bad l c b hr
  have i1 := is_none 0 false
  have i2 := is_none size b
  rw [hr] at hR hR'
  refine eff_of Try.func5 rfl rfl rfl fun cx e hP => ?_
  refine AWP.runL e tab_ok L5 300 rfl (by first | trivial | (simp [] <;> omega)) ?_
  refine AWP.less e (tm := [(33, .i size), (35, .b b), (0, .i size), (2, .d (.v (.string x))), (4, .ptr 0 0), (6, .b false)]) (hp := [(0, .box [slS l, .i c, .b b])]) (nx := 1) ?_ ?_ ?_ ?_ ?_ ?_
  · exact ⟨rfl, rfl, rfl, rfl, rfl, rfl, trivial⟩
  · refine ⟨?_, trivial⟩
    exact congrArg (fun z => some (Blk.box [SV.d (.sl 1 z), .i c, .b b])) ((take_map _ 20 l0 (by omega)).trans (congrArg rowS hl.symm))
  · rfl
  · exact ⟨rfl, rfl, trivial⟩
  · rfl
  repeat (
    first
      | (refine AWP.askT rfl ?_; (first | (refine Told.t rfl ?_) | (refine Told.f rfl ?_) | (refine Told.t ?_ ?_; (focus (first | assumption | (simp; omega) | (simp [*]; done)); done)) | (refine Told.f ?_ ?_; (focus (first | assumption | (simp; omega) | (simp [*]; done)); done))); refine AWP.runL e tab_ok L5 300 rfl (by first | trivial | (simp [in64] <;> omega)) ?_)
      | (refine AWP.callQ e rfl rfl ?_; (first | refine CallQ.mk (hN) rfl rfl ?_ | refine CallQ.mk (hQ) rfl rfl ?_ | refine CallQ.mk (hT) rfl rfl ?_ | refine CallQ.mk (hE) rfl rfl ?_ | refine CallQ.mk (hR) rfl rfl ?_ | refine CallQ.mk (hR') rfl rfl ?_ | refine CallQ.mk (hM) rfl rfl ?_ | refine CallQ.mk (i1) rfl rfl ?_ | refine CallQ.mk (i2) rfl rfl ?_ | refine CallQ.mk (alive_eff) rfl rfl ?_); refine AWP.runL e tab_ok L5 300 rfl (by first | trivial | (simp [in64] <;> omega)) ?_)
      | (refine AWP.keep L5 rfl ?_; refine AWP.drg 100 ?_; (refine DrG.runN e tab_ok 200 rfl (by first | trivial | (simp [in64] <;> omega)) ?_); (repeat (first | (refine DrG.callQ e rfl rfl ?_; (first | refine CallVQ.mk (hN) rfl rfl ?_ | refine CallVQ.mk (hQ) rfl rfl ?_ | refine CallVQ.mk (hT) rfl rfl ?_ | refine CallVQ.mk (hE) rfl rfl ?_ | refine CallVQ.mk (hR) rfl rfl ?_ | refine CallVQ.mk (hR') rfl rfl ?_ | refine CallVQ.mk (hM) rfl rfl ?_ | refine CallVQ.mk (i1) rfl rfl ?_ | refine CallVQ.mk (i2) rfl rfl ?_ | refine CallVQ.mk (alive_eff) rfl rfl ?_); (refine DrG.runN e tab_ok 200 rfl (by first | trivial | (simp [in64] <;> omega)) ?_)) | (refine DrG.callGo e rfl rfl rfl ?_; (first | refine CallVQ.mk (hN) rfl rfl ?_ | refine CallVQ.mk (hQ) rfl rfl ?_ | refine CallVQ.mk (hT) rfl rfl ?_ | refine CallVQ.mk (hE) rfl rfl ?_ | refine CallVQ.mk (hR) rfl rfl ?_ | refine CallVQ.mk (hR') rfl rfl ?_ | refine CallVQ.mk (hM) rfl rfl ?_ | refine CallVQ.mk (i1) rfl rfl ?_ | refine CallVQ.mk (i2) rfl rfl ?_ | refine CallVQ.mk (alive_eff) rfl rfl ?_); (refine DrG.runN e tab_ok 200 rfl (by first | trivial | (simp [in64] <;> omega)) ?_)) | (refine DrG.callGoA e rfl ?_ rfl rfl ?_; (focus (first | assumption | with_reducible trivial | rfl | (simp; omega) | (simp [in64]; omega) | (simp [*]; done))); (first | refine CallVQ.mk (hN) rfl rfl ?_ | refine CallVQ.mk (hQ) rfl rfl ?_ | refine CallVQ.mk (hT) rfl rfl ?_ | refine CallVQ.mk (hE) rfl rfl ?_ | refine CallVQ.mk (hR) rfl rfl ?_ | refine CallVQ.mk (hR') rfl rfl ?_ | refine CallVQ.mk (hM) rfl rfl ?_ | refine CallVQ.mk (i1) rfl rfl ?_ | refine CallVQ.mk (i2) rfl rfl ?_ | refine CallVQ.mk (alive_eff) rfl rfl ?_); (refine DrG.runN e tab_ok 200 rfl (by first | trivial | (simp [in64] <;> omega)) ?_)) | (refine DrG.v rfl (fun _ => VStep.goA rfl ?_ (VStep.ev e tab_ok rfl rfl ?_)) rfl ?_; (focus (first | rfl | assumption | (simp; done))); (focus (first | assumption | with_reducible trivial | rfl | (simp; omega) | (simp [in64]; omega) | (simp [*]; done))); (refine DrG.runN e tab_ok 200 rfl (by first | trivial | (simp [in64] <;> omega)) ?_)) | (refine DrG.loadGoA e tab_ok rfl ?_ rfl rfl rfl rfl rfl rfl ?_; (focus (first | rfl | assumption | (simp; done))); (refine DrG.runN e tab_ok 200 rfl (by first | trivial | (simp [in64] <;> omega)) ?_)) | (refine DrG.v rfl (fun _ => VStep.notA e rfl rfl ?_) rfl ?_; (focus (first | rfl | assumption | (simp; done))); (refine DrG.runN e tab_ok 200 rfl (by first | trivial | (simp [in64] <;> omega)) ?_)) | (refine DrG.v rfl (fun _ => VStep.pickA e rfl rfl (v := true) ?_ rfl) rfl ?_; (focus (first | rfl | assumption | (simp; done))); (refine DrG.runN e tab_ok 200 rfl (by first | trivial | (simp [in64] <;> omega)) ?_)) | (refine DrG.v rfl (fun _ => VStep.pickA e rfl rfl (v := false) ?_ rfl) rfl ?_; (focus (first | rfl | assumption | (simp; done))); (refine DrG.runN e tab_ok 200 rfl (by first | trivial | (simp [in64] <;> omega)) ?_)) | (refine DrG.v rfl (fun _ => VStep.goA rfl ?_ (VStep.ev e tab_ok rfl rfl ?_)) rfl ?_; (focus (first | assumption | with_reducible trivial | rfl | (simp; omega) | (simp [in64]; omega) | (simp [*]; done))); (focus (first | assumption | with_reducible trivial | rfl | (simp; omega) | (simp [in64]; omega) | (simp [*]; done))); (refine DrG.runN e tab_ok 200 rfl (by first | trivial | (simp [in64] <;> omega)) ?_)) | (refine DrG.loadGoA e tab_ok rfl ?_ rfl rfl rfl rfl rfl rfl ?_; (focus (first | assumption | with_reducible trivial | rfl | (simp; omega) | (simp [in64]; omega) | (simp [*]; done))); (refine DrG.runN e tab_ok 200 rfl (by first | trivial | (simp [in64] <;> omega)) ?_)) | (refine DrG.v rfl (fun _ => VStep.notA e rfl rfl ?_) rfl ?_; (focus (first | assumption | with_reducible trivial | rfl | (simp; omega) | (simp [in64]; omega) | (simp [*]; done))); (refine DrG.runN e tab_ok 200 rfl (by first | trivial | (simp [in64] <;> omega)) ?_)) | (refine DrG.v rfl (fun _ => VStep.pickA e rfl rfl (v := true) ?_ rfl) rfl ?_; (focus (first | assumption | with_reducible trivial | rfl | (simp; omega) | (simp [in64]; omega) | (simp [*]; done))); (refine DrG.runN e tab_ok 200 rfl (by first | trivial | (simp [in64] <;> omega)) ?_)) | (refine DrG.v rfl (fun _ => VStep.pickA e rfl rfl (v := false) ?_ rfl) rfl ?_; (focus (first | assumption | with_reducible trivial | rfl | (simp; omega) | (simp [in64]; omega) | (simp [*]; done))); (refine DrG.runN e tab_ok 200 rfl (by first | trivial | (simp [in64] <;> omega)) ?_)) | (refine DrG.v rfl (fun _ => VStep.goA rfl ?_ (VStep.pickA e rfl rfl (v := true) ?_ rfl)) rfl ?_; (focus (first | assumption | with_reducible trivial | rfl | (simp; omega) | (simp [in64]; omega) | (simp [*]; done))); (focus (first | assumption | with_reducible trivial | rfl | (simp; omega) | (simp [in64]; omega) | (simp [*]; done))); (refine DrG.runN e tab_ok 200 rfl (by first | trivial | (simp [in64] <;> omega)) ?_)) | (refine DrG.v rfl (fun _ => VStep.go rfl (VStep.pickA e rfl rfl (v := true) ?_ rfl)) rfl ?_; (focus (first | assumption | with_reducible trivial | rfl | (simp; omega) | (simp [in64]; omega) | (simp [*]; done))); (refine DrG.runN e tab_ok 200 rfl (by first | trivial | (simp [in64] <;> omega)) ?_)) | (refine DrG.v rfl (fun _ => VStep.goA rfl ?_ (VStep.pickA e rfl rfl (v := false) ?_ rfl)) rfl ?_; (focus (first | assumption | with_reducible trivial | rfl | (simp; omega) | (simp [in64]; omega) | (simp [*]; done))); (focus (first | assumption | with_reducible trivial | rfl | (simp; omega) | (simp [in64]; omega) | (simp [*]; done))); (refine DrG.runN e tab_ok 200 rfl (by first | trivial | (simp [in64] <;> omega)) ?_)) | (refine DrG.v rfl (fun _ => VStep.go rfl (VStep.pickA e rfl rfl (v := false) ?_ rfl)) rfl ?_; (focus (first | assumption | with_reducible trivial | rfl | (simp; omega) | (simp [in64]; omega) | (simp [*]; done))); (refine DrG.runN e tab_ok 200 rfl (by first | trivial | (simp [in64] <;> omega)) ?_)))); refine DrG.fin e rfl ?_ rfl rfl rfl ?_ ?_; (focus kernel_rfl); (focus (repeat' (first | exact True.intro | (refine And.intro ?_ ?_) | rfl | assumption | exact okRow _))); dsimp only [tmS, hpS, tput, effH]; refine AWP.runL e tab_ok L5 300 rfl (by first | trivial | (simp [in64] <;> omega)) ?_)
    )
  refine AWP.ret e tab_ok rfl ?_
  rw [hP]
  all_goals first | rfl | (simp [strip]; done)

set_option maxRecDepth 100000 in
set_option maxHeartbeats 4000000 in
theorem calls_b3 (size c : Int) (b : Bool) (l0 l : List ByteArray) (x : ByteArray) (hl0 : l0.length ≤ 9223372036854775807) (hl : l = l0.take 20) (ll : l.length ≤ 20) (hr : rightR l.length c = false) (h1 : 16 < size) :
    Eff Try.prog 5 [.i size, ringS l0 c b, .d (.v (.string x))] [] 0 (fun r _ _ => r = .b true) := by
  have hN := newS_bad size b (.inr h1)
  have hQ := putS_bad l c b x hr
  have hT := takeS_bad l c b hr
  have hE := each_bad l c b 16 hr
  have hR := refRight_eff l c
  have hR' := rightS_eff l c b
  have hM := roomS_bad l c b hr
  have i1 := is_none 0 false
  have i2 := is_none size b
  rw [hr] at hR hR'
  refine eff_of Try.func5 rfl rfl rfl fun cx e hP => ?_
  refine AWP.runL e tab_ok L5 300 rfl (by first | trivial | (simp [] <;> omega)) ?_
  refine AWP.less e (tm := [(33, .i size), (35, .b b), (0, .i size), (2, .d (.v (.string x))), (4, .ptr 0 0), (6, .b false)]) (hp := [(0, .box [slS l, .i c, .b b])]) (nx := 1) ?_ ?_ ?_ ?_ ?_ ?_
  · exact ⟨rfl, rfl, rfl, rfl, rfl, rfl, trivial⟩
  · refine ⟨?_, trivial⟩
    exact congrArg (fun z => some (Blk.box [SV.d (.sl 1 z), .i c, .b b])) ((take_map _ 20 l0 (by omega)).trans (congrArg rowS hl.symm))
  · rfl
  · exact ⟨rfl, rfl, trivial⟩
  · rfl
  repeat (
    first
      | (refine AWP.askT rfl ?_; (first | (refine Told.t rfl ?_) | (refine Told.f rfl ?_) | (refine Told.t ?_ ?_; (focus (first | assumption | (simp; omega) | (simp [*]; done)); done)) | (refine Told.f ?_ ?_; (focus (first | assumption | (simp; omega) | (simp [*]; done)); done))); refine AWP.runL e tab_ok L5 300 rfl (by first | trivial | (simp [in64] <;> omega)) ?_)
      | (refine AWP.callQ e rfl rfl ?_; (first | refine CallQ.mk (hN) rfl rfl ?_ | refine CallQ.mk (hQ) rfl rfl ?_ | refine CallQ.mk (hT) rfl rfl ?_ | refine CallQ.mk (hE) rfl rfl ?_ | refine CallQ.mk (hR) rfl rfl ?_ | refine CallQ.mk (hR') rfl rfl ?_ | refine CallQ.mk (hM) rfl rfl ?_ | refine CallQ.mk (i1) rfl rfl ?_ | refine CallQ.mk (i2) rfl rfl ?_ | refine CallQ.mk (alive_eff) rfl rfl ?_); refine AWP.runL e tab_ok L5 300 rfl (by first | trivial | (simp [in64] <;> omega)) ?_)
      | (refine AWP.keep L5 rfl ?_; refine AWP.drg 100 ?_; (refine DrG.runN e tab_ok 200 rfl (by first | trivial | (simp [in64] <;> omega)) ?_); (repeat (first | (refine DrG.callQ e rfl rfl ?_; (first | refine CallVQ.mk (hN) rfl rfl ?_ | refine CallVQ.mk (hQ) rfl rfl ?_ | refine CallVQ.mk (hT) rfl rfl ?_ | refine CallVQ.mk (hE) rfl rfl ?_ | refine CallVQ.mk (hR) rfl rfl ?_ | refine CallVQ.mk (hR') rfl rfl ?_ | refine CallVQ.mk (hM) rfl rfl ?_ | refine CallVQ.mk (i1) rfl rfl ?_ | refine CallVQ.mk (i2) rfl rfl ?_ | refine CallVQ.mk (alive_eff) rfl rfl ?_); (refine DrG.runN e tab_ok 200 rfl (by first | trivial | (simp [in64] <;> omega)) ?_)) | (refine DrG.callGo e rfl rfl rfl ?_; (first | refine CallVQ.mk (hN) rfl rfl ?_ | refine CallVQ.mk (hQ) rfl rfl ?_ | refine CallVQ.mk (hT) rfl rfl ?_ | refine CallVQ.mk (hE) rfl rfl ?_ | refine CallVQ.mk (hR) rfl rfl ?_ | refine CallVQ.mk (hR') rfl rfl ?_ | refine CallVQ.mk (hM) rfl rfl ?_ | refine CallVQ.mk (i1) rfl rfl ?_ | refine CallVQ.mk (i2) rfl rfl ?_ | refine CallVQ.mk (alive_eff) rfl rfl ?_); (refine DrG.runN e tab_ok 200 rfl (by first | trivial | (simp [in64] <;> omega)) ?_)) | (refine DrG.callGoA e rfl ?_ rfl rfl ?_; (focus (first | assumption | with_reducible trivial | rfl | (simp; omega) | (simp [in64]; omega) | (simp [*]; done))); (first | refine CallVQ.mk (hN) rfl rfl ?_ | refine CallVQ.mk (hQ) rfl rfl ?_ | refine CallVQ.mk (hT) rfl rfl ?_ | refine CallVQ.mk (hE) rfl rfl ?_ | refine CallVQ.mk (hR) rfl rfl ?_ | refine CallVQ.mk (hR') rfl rfl ?_ | refine CallVQ.mk (hM) rfl rfl ?_ | refine CallVQ.mk (i1) rfl rfl ?_ | refine CallVQ.mk (i2) rfl rfl ?_ | refine CallVQ.mk (alive_eff) rfl rfl ?_); (refine DrG.runN e tab_ok 200 rfl (by first | trivial | (simp [in64] <;> omega)) ?_)) | (refine DrG.v rfl (fun _ => VStep.goA rfl ?_ (VStep.ev e tab_ok rfl rfl ?_)) rfl ?_; (focus (first | rfl | assumption | (simp; done))); (focus (first | assumption | with_reducible trivial | rfl | (simp; omega) | (simp [in64]; omega) | (simp [*]; done))); (refine DrG.runN e tab_ok 200 rfl (by first | trivial | (simp [in64] <;> omega)) ?_)) | (refine DrG.loadGoA e tab_ok rfl ?_ rfl rfl rfl rfl rfl rfl ?_; (focus (first | rfl | assumption | (simp; done))); (refine DrG.runN e tab_ok 200 rfl (by first | trivial | (simp [in64] <;> omega)) ?_)) | (refine DrG.v rfl (fun _ => VStep.notA e rfl rfl ?_) rfl ?_; (focus (first | rfl | assumption | (simp; done))); (refine DrG.runN e tab_ok 200 rfl (by first | trivial | (simp [in64] <;> omega)) ?_)) | (refine DrG.v rfl (fun _ => VStep.pickA e rfl rfl (v := true) ?_ rfl) rfl ?_; (focus (first | rfl | assumption | (simp; done))); (refine DrG.runN e tab_ok 200 rfl (by first | trivial | (simp [in64] <;> omega)) ?_)) | (refine DrG.v rfl (fun _ => VStep.pickA e rfl rfl (v := false) ?_ rfl) rfl ?_; (focus (first | rfl | assumption | (simp; done))); (refine DrG.runN e tab_ok 200 rfl (by first | trivial | (simp [in64] <;> omega)) ?_)) | (refine DrG.v rfl (fun _ => VStep.goA rfl ?_ (VStep.ev e tab_ok rfl rfl ?_)) rfl ?_; (focus (first | assumption | with_reducible trivial | rfl | (simp; omega) | (simp [in64]; omega) | (simp [*]; done))); (focus (first | assumption | with_reducible trivial | rfl | (simp; omega) | (simp [in64]; omega) | (simp [*]; done))); (refine DrG.runN e tab_ok 200 rfl (by first | trivial | (simp [in64] <;> omega)) ?_)) | (refine DrG.loadGoA e tab_ok rfl ?_ rfl rfl rfl rfl rfl rfl ?_; (focus (first | assumption | with_reducible trivial | rfl | (simp; omega) | (simp [in64]; omega) | (simp [*]; done))); (refine DrG.runN e tab_ok 200 rfl (by first | trivial | (simp [in64] <;> omega)) ?_)) | (refine DrG.v rfl (fun _ => VStep.notA e rfl rfl ?_) rfl ?_; (focus (first | assumption | with_reducible trivial | rfl | (simp; omega) | (simp [in64]; omega) | (simp [*]; done))); (refine DrG.runN e tab_ok 200 rfl (by first | trivial | (simp [in64] <;> omega)) ?_)) | (refine DrG.v rfl (fun _ => VStep.pickA e rfl rfl (v := true) ?_ rfl) rfl ?_; (focus (first | assumption | with_reducible trivial | rfl | (simp; omega) | (simp [in64]; omega) | (simp [*]; done))); (refine DrG.runN e tab_ok 200 rfl (by first | trivial | (simp [in64] <;> omega)) ?_)) | (refine DrG.v rfl (fun _ => VStep.pickA e rfl rfl (v := false) ?_ rfl) rfl ?_; (focus (first | assumption | with_reducible trivial | rfl | (simp; omega) | (simp [in64]; omega) | (simp [*]; done))); (refine DrG.runN e tab_ok 200 rfl (by first | trivial | (simp [in64] <;> omega)) ?_)) | (refine DrG.v rfl (fun _ => VStep.goA rfl ?_ (VStep.pickA e rfl rfl (v := true) ?_ rfl)) rfl ?_; (focus (first | assumption | with_reducible trivial | rfl | (simp; omega) | (simp [in64]; omega) | (simp [*]; done))); (focus (first | assumption | with_reducible trivial | rfl | (simp; omega) | (simp [in64]; omega) | (simp [*]; done))); (refine DrG.runN e tab_ok 200 rfl (by first | trivial | (simp [in64] <;> omega)) ?_)) | (refine DrG.v rfl (fun _ => VStep.go rfl (VStep.pickA e rfl rfl (v := true) ?_ rfl)) rfl ?_; (focus (first | assumption | with_reducible trivial | rfl | (simp; omega) | (simp [in64]; omega) | (simp [*]; done))); (refine DrG.runN e tab_ok 200 rfl (by first | trivial | (simp [in64] <;> omega)) ?_)) | (refine DrG.v rfl (fun _ => VStep.goA rfl ?_ (VStep.pickA e rfl rfl (v := false) ?_ rfl)) rfl ?_; (focus (first | assumption | with_reducible trivial | rfl | (simp; omega) | (simp [in64]; omega) | (simp [*]; done))); (focus (first | assumption | with_reducible trivial | rfl | (simp; omega) | (simp [in64]; omega) | (simp [*]; done))); (refine DrG.runN e tab_ok 200 rfl (by first | trivial | (simp [in64] <;> omega)) ?_)) | (refine DrG.v rfl (fun _ => VStep.go rfl (VStep.pickA e rfl rfl (v := false) ?_ rfl)) rfl ?_; (focus (first | assumption | with_reducible trivial | rfl | (simp; omega) | (simp [in64]; omega) | (simp [*]; done))); (refine DrG.runN e tab_ok 200 rfl (by first | trivial | (simp [in64] <;> omega)) ?_)))); refine DrG.fin e rfl ?_ rfl rfl rfl ?_ ?_; (focus kernel_rfl); (focus (repeat' (first | exact True.intro | (refine And.intro ?_ ?_) | rfl | assumption | exact okRow _))); dsimp only [tmS, hpS, tput, effH]; refine AWP.runL e tab_ok L5 300 rfl (by first | trivial | (simp [in64] <;> omega)) ?_)
    )
  refine AWP.ret e tab_ok rfl ?_
  rw [hP]
  all_goals first | rfl | (simp [strip]; done)



end Go.Proofs.Ytkcdmibpmoknmaa
