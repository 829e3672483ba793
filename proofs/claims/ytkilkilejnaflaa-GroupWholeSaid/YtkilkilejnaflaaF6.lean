import Derived.Test.YtkilkilejnaflaaF5
open Go Go.Proofs Go.Sy
namespace Go.Proofs.Ytkilkilejnaflaa

set_option maxRecDepth 100000 in
theorem like_nn : Eff Try.prog 13 [none0, none0] [] 0 (fun r _ _ => r = .b true) := by
  refine eff_of Try.func13 rfl rfl rfl fun cx e hP => ?_
  refine AWP.runL e tab_ok L13 300 rfl (by first | trivial | (simp [in64] <;> omega)) ?_
  refine AWP.call e (same_eff [] [] (by simp)) rfl [] (.cons (.nil 1) (.cons (.nil 1) .nil)) rfl rfl ?_; rintro _ _ _ rfl; refine ⟨rfl, .inl rfl, ?_⟩
  refine AWP.runL e tab_ok L13 300 rfl (by first | trivial | (simp [in64] <;> omega)) ?_
  repeat (
    first
      | (refine AWP.askT rfl ?_; (first | (refine Told.t rfl ?_) | (refine Told.f rfl ?_) | (refine Told.t ?_ ?_; (focus (first | assumption | (simp; omega) | (simp [*]; done)); done)) | (refine Told.f ?_ ?_; (focus (first | assumption | (simp; omega) | (simp [*]; done)); done))); refine AWP.runL e tab_ok L13 300 rfl (by first | trivial | (simp [in64] <;> omega)) ?_)
    )
  refine AWP.call e (same_eff [] [] (by simp)) rfl [] (.cons (.nil 1) (.cons (.nil 1) .nil)) rfl rfl ?_; rintro _ _ _ rfl; refine ⟨rfl, .inl rfl, ?_⟩
  refine AWP.runL e tab_ok L13 300 rfl (by first | trivial | (simp [in64] <;> omega)) ?_
  repeat (
    first
      | (refine AWP.askT rfl ?_; (first | (refine Told.t rfl ?_) | (refine Told.f rfl ?_) | (refine Told.t ?_ ?_; (focus (first | assumption | (simp; omega) | (simp [*]; done)); done)) | (refine Told.f ?_ ?_; (focus (first | assumption | (simp; omega) | (simp [*]; done)); done))); refine AWP.runL e tab_ok L13 300 rfl (by first | trivial | (simp [in64] <;> omega)) ?_)
    )
  refine AWP.ret e tab_ok rfl ?_
  rw [hP]
  all_goals first | rfl | (simp [strip]; done)

theorem like_self (s g : List Int) (t : Int) (hs : s.length ≤ 20) (hg : g.length ≤ 20) : Eff Try.prog 13 [.agg (grp s g t), .agg (grp s g t)] [] 0 (fun r _ _ => r = .b true) := by
  have := like_eff s g s g t t (by omega) (by omega)
  rwa [show (s == s && g == g && t == t) = true by simp] at this

set_option maxRecDepth 100000 in
set_option maxHeartbeats 4000000 in
theorem calls_b1 (s0 g0 v0 s g v : List Int) (t at_ x : Int) (hs0 : s0.length ≤ 9223372036854775807) (hg0 : g0.length ≤ 9223372036854775807) (hv0 : v0.length ≤ 9223372036854775807) (hs : s = s0.take 20) (hg : g = g0.take 20) (hv : v = v0.take 20) (ls : s.length ≤ 20) (lg : g.length ≤ 20) (lv : v.length ≤ 20) (hr : rightG s g t = false) (v1 : 1 ≤ v.length) (v2 : v.length ≤ 16) :
    Eff Try.prog 3 [.agg (grp s0 g0 t), sl v0, .i at_, .i x] [] 0 (fun r _ _ => r = .b true) := by
  have hR := right_eff s g t
  have hR' := refRight_eff s g t
  have hN := new_ok v v1 v2
  have hS := set_bad s g t at_ x (by simp [hr])
  have hG := give_bad s g t (by simp [hr])
  have hT := take_bad s g v t (by simp [hr])
  have hE := get_bad s g t at_ (by simp [hr])
  have hB := back_bad s g t hr
  have l1 := like_self v v 0 lv lv
  have l2 := like_self v v (t + 1) lv lv
  have l3 := like_self s s (t + 1) ls ls
  have l4 := like_self g g t lg lg
  rw [hr] at hR hR'
  skip
  refine eff_of Try.func3 rfl rfl rfl fun cx e hP => ?_
  refine AWP.runL e tab_ok L3 300 rfl (by first | trivial | (simp [in64] <;> omega)) ?_
  refine AWP.callQ e rfl rfl ?_
  refine CallQ.mk (few_eff s0 g0 t hs0 hg0) rfl rfl ?_
  refine AWP.runL e tab_ok L3 300 rfl (by first | trivial | (simp [] <;> omega)) ?_
  refine AWP.less e (tm := [(31, sl v), (1, sl v), (2, .i at_), (3, .i x), (4, .ptr 0 0), (8, .b false)]) (hp := [(0, .box (grp s g t))]) (nx := 1) ?_ ?_ ?_ ?_ ?_ ?_
  · refine ⟨?_, ?_, rfl, rfl, rfl, rfl, trivial⟩
    · exact congrArg (fun z => some (SV.d (.sl 1 z))) ((take_ints 20 v0 (by omega)).trans (congrArg ints hv.symm))
    · exact congrArg (fun z => some (SV.d (.sl 1 z))) ((take_ints 20 v0 (by omega)).trans (congrArg ints hv.symm))
  · exact ⟨congrArg some (by rw [hs, hg]), trivial⟩
  · rfl
  · exact ⟨rfl, rfl, trivial⟩
  · rfl
  repeat (
    first
      | (refine AWP.askT rfl ?_; (first | (refine Told.t rfl ?_) | (refine Told.f rfl ?_) | (refine Told.t ?_ ?_; (focus (first | assumption | (simp; omega) | (simp [*]; done)); done)) | (refine Told.f ?_ ?_; (focus (first | assumption | (simp; omega) | (simp [*]; done)); done))); refine AWP.runL e tab_ok L3 300 rfl (by first | trivial | (simp [in64] <;> omega)) ?_)
      | (refine AWP.callQ e rfl rfl ?_; (first | refine CallQ.mk (hN) rfl rfl ?_ | refine CallQ.mk (hS) rfl rfl ?_ | refine CallQ.mk (hG) rfl rfl ?_ | refine CallQ.mk (hT) rfl rfl ?_ | refine CallQ.mk (hE) rfl rfl ?_ | refine CallQ.mk (hB) rfl rfl ?_ | refine CallQ.mk (l1) rfl rfl ?_ | refine CallQ.mk (l2) rfl rfl ?_ | refine CallQ.mk (l3) rfl rfl ?_ | refine CallQ.mk (l4) rfl rfl ?_ | refine CallQ.mk (hR) rfl rfl ?_ | refine CallQ.mk (hR') rfl rfl ?_ | refine CallQ.mk (alive_eff) rfl rfl ?_ | refine CallQ.mk (like_nn) rfl rfl ?_); refine AWP.runL e tab_ok L3 300 rfl (by first | trivial | (simp [in64] <;> omega)) ?_)
      | (refine AWP.keep L3 rfl ?_; refine AWP.drg 100 ?_; (refine DrG.runN e tab_ok 200 rfl (by first | trivial | (simp [in64] <;> omega)) ?_); (repeat (first | (refine DrG.callQ e rfl rfl ?_; (first | refine CallVQ.mk (hN) rfl rfl ?_ | refine CallVQ.mk (hS) rfl rfl ?_ | refine CallVQ.mk (hG) rfl rfl ?_ | refine CallVQ.mk (hT) rfl rfl ?_ | refine CallVQ.mk (hE) rfl rfl ?_ | refine CallVQ.mk (hB) rfl rfl ?_ | refine CallVQ.mk (l1) rfl rfl ?_ | refine CallVQ.mk (l2) rfl rfl ?_ | refine CallVQ.mk (l3) rfl rfl ?_ | refine CallVQ.mk (l4) rfl rfl ?_ | refine CallVQ.mk (hR) rfl rfl ?_ | refine CallVQ.mk (hR') rfl rfl ?_ | refine CallVQ.mk (alive_eff) rfl rfl ?_ | refine CallVQ.mk (like_nn) rfl rfl ?_); (refine DrG.runN e tab_ok 200 rfl (by first | trivial | (simp [in64] <;> omega)) ?_)) | (refine DrG.callGo e rfl rfl rfl ?_; (first | refine CallVQ.mk (hN) rfl rfl ?_ | refine CallVQ.mk (hS) rfl rfl ?_ | refine CallVQ.mk (hG) rfl rfl ?_ | refine CallVQ.mk (hT) rfl rfl ?_ | refine CallVQ.mk (hE) rfl rfl ?_ | refine CallVQ.mk (hB) rfl rfl ?_ | refine CallVQ.mk (l1) rfl rfl ?_ | refine CallVQ.mk (l2) rfl rfl ?_ | refine CallVQ.mk (l3) rfl rfl ?_ | refine CallVQ.mk (l4) rfl rfl ?_ | refine CallVQ.mk (hR) rfl rfl ?_ | refine CallVQ.mk (hR') rfl rfl ?_ | refine CallVQ.mk (alive_eff) rfl rfl ?_ | refine CallVQ.mk (like_nn) rfl rfl ?_); (refine DrG.runN e tab_ok 200 rfl (by first | trivial | (simp [in64] <;> omega)) ?_)) | (refine DrG.callGoA e rfl ?_ rfl rfl ?_; (focus (first | assumption | with_reducible trivial | rfl | (simp; omega) | (simp [in64]; omega) | (simp [*]; done))); (first | refine CallVQ.mk (hN) rfl rfl ?_ | refine CallVQ.mk (hS) rfl rfl ?_ | refine CallVQ.mk (hG) rfl rfl ?_ | refine CallVQ.mk (hT) rfl rfl ?_ | refine CallVQ.mk (hE) rfl rfl ?_ | refine CallVQ.mk (hB) rfl rfl ?_ | refine CallVQ.mk (l1) rfl rfl ?_ | refine CallVQ.mk (l2) rfl rfl ?_ | refine CallVQ.mk (l3) rfl rfl ?_ | refine CallVQ.mk (l4) rfl rfl ?_ | refine CallVQ.mk (hR) rfl rfl ?_ | refine CallVQ.mk (hR') rfl rfl ?_ | refine CallVQ.mk (alive_eff) rfl rfl ?_ | refine CallVQ.mk (like_nn) rfl rfl ?_); (refine DrG.runN e tab_ok 200 rfl (by first | trivial | (simp [in64] <;> omega)) ?_)) | (refine DrG.v rfl (fun _ => VStep.goA rfl ?_ (VStep.ev e tab_ok rfl rfl ?_)) rfl ?_; (focus (first | assumption | with_reducible trivial | rfl | (simp; omega) | (simp [in64]; omega) | (simp [*]; done))); (focus (first | assumption | with_reducible trivial | rfl | (simp; omega) | (simp [in64]; omega) | (simp [*]; done))); (refine DrG.runN e tab_ok 200 rfl (by first | trivial | (simp [in64] <;> omega)) ?_)) | (refine DrG.loadGoA e tab_ok rfl ?_ rfl rfl rfl rfl rfl rfl ?_; (focus (first | assumption | with_reducible trivial | rfl | (simp; omega) | (simp [in64]; omega) | (simp [*]; done))); (refine DrG.runN e tab_ok 200 rfl (by first | trivial | (simp [in64] <;> omega)) ?_)) | (refine DrG.v rfl (fun _ => VStep.notA e rfl rfl ?_) rfl ?_; (focus (first | assumption | with_reducible trivial | rfl | (simp; omega) | (simp [in64]; omega) | (simp [*]; done))); (refine DrG.runN e tab_ok 200 rfl (by first | trivial | (simp [in64] <;> omega)) ?_)) | (refine DrG.v rfl (fun _ => VStep.pickA e rfl rfl (v := true) ?_ rfl) rfl ?_; (focus (first | assumption | with_reducible trivial | rfl | (simp; omega) | (simp []; omega) | (simp [*]; done))); (refine DrG.runN e tab_ok 200 rfl (by first | trivial | (simp [in64] <;> omega)) ?_)) | (refine DrG.v rfl (fun _ => VStep.pickA e rfl rfl (v := false) ?_ rfl) rfl ?_; (focus (first | assumption | with_reducible trivial | rfl | (simp; omega) | (simp [in64]; omega) | (simp [*]; done))); (refine DrG.runN e tab_ok 200 rfl (by first | trivial | (simp [in64] <;> omega)) ?_)))); refine DrG.fin e rfl ?_ rfl rfl rfl ?_ ?_; (focus kernel_rfl); (focus (repeat' (first | exact True.intro | (refine And.intro ?_ ?_) | rfl | assumption | exact okRow _))); dsimp only [tmS, hpS, tput, effH]; refine AWP.runL e tab_ok L3 300 rfl (by first | trivial | (simp [in64] <;> omega)) ?_)
    )
  refine AWP.ret e tab_ok rfl ?_
  rw [hP]
  all_goals first | rfl | (simp [strip]; done)

set_option maxRecDepth 100000 in
set_option maxHeartbeats 4000000 in
theorem calls_b2 (s0 g0 v0 s g v : List Int) (t at_ x : Int) (hs0 : s0.length ≤ 9223372036854775807) (hg0 : g0.length ≤ 9223372036854775807) (hv0 : v0.length ≤ 9223372036854775807) (hs : s = s0.take 20) (hg : g = g0.take 20) (hv : v = v0.take 20) (ls : s.length ≤ 20) (lg : g.length ≤ 20) (lv : v.length ≤ 20) (hr : rightG s g t = false) (v1 : v.length < 1) :
    Eff Try.prog 3 [.agg (grp s0 g0 t), sl v0, .i at_, .i x] [] 0 (fun r _ _ => r = .b true) := by
  have hR := right_eff s g t
  have hR' := refRight_eff s g t
  have hN := new_bad v (by omega)
  have hS := set_bad s g t at_ x (by simp [hr])
  have hG := give_bad s g t (by simp [hr])
  have hT := take_bad s g v t (by simp [hr])
  have hE := get_bad s g t at_ (by simp [hr])
  have hB := back_bad s g t hr
  have l1 := like_self v v 0 lv lv
  have l2 := like_self v v (t + 1) lv lv
  have l3 := like_self s s (t + 1) ls ls
  have l4 := like_self g g t lg lg
  rw [hr] at hR hR'
  skip
  refine eff_of Try.func3 rfl rfl rfl fun cx e hP => ?_
  refine AWP.runL e tab_ok L3 300 rfl (by first | trivial | (simp [in64] <;> omega)) ?_
  refine AWP.callQ e rfl rfl ?_
  refine CallQ.mk (few_eff s0 g0 t hs0 hg0) rfl rfl ?_
  refine AWP.runL e tab_ok L3 300 rfl (by first | trivial | (simp [] <;> omega)) ?_
  refine AWP.less e (tm := [(31, sl v), (1, sl v), (2, .i at_), (3, .i x), (4, .ptr 0 0), (8, .b false)]) (hp := [(0, .box (grp s g t))]) (nx := 1) ?_ ?_ ?_ ?_ ?_ ?_
  · refine ⟨?_, ?_, rfl, rfl, rfl, rfl, trivial⟩
    · exact congrArg (fun z => some (SV.d (.sl 1 z))) ((take_ints 20 v0 (by omega)).trans (congrArg ints hv.symm))
    · exact congrArg (fun z => some (SV.d (.sl 1 z))) ((take_ints 20 v0 (by omega)).trans (congrArg ints hv.symm))
  · exact ⟨congrArg some (by rw [hs, hg]), trivial⟩
  · rfl
  · exact ⟨rfl, rfl, trivial⟩
  · rfl
  repeat (
    first
      | (refine AWP.askT rfl ?_; (first | (refine Told.t rfl ?_) | (refine Told.f rfl ?_) | (refine Told.t ?_ ?_; (focus (first | assumption | (simp; omega) | (simp [*]; done)); done)) | (refine Told.f ?_ ?_; (focus (first | assumption | (simp; omega) | (simp [*]; done)); done))); refine AWP.runL e tab_ok L3 300 rfl (by first | trivial | (simp [in64] <;> omega)) ?_)
      | (refine AWP.callQ e rfl rfl ?_; (first | refine CallQ.mk (hN) rfl rfl ?_ | refine CallQ.mk (hS) rfl rfl ?_ | refine CallQ.mk (hG) rfl rfl ?_ | refine CallQ.mk (hT) rfl rfl ?_ | refine CallQ.mk (hE) rfl rfl ?_ | refine CallQ.mk (hB) rfl rfl ?_ | refine CallQ.mk (l1) rfl rfl ?_ | refine CallQ.mk (l2) rfl rfl ?_ | refine CallQ.mk (l3) rfl rfl ?_ | refine CallQ.mk (l4) rfl rfl ?_ | refine CallQ.mk (hR) rfl rfl ?_ | refine CallQ.mk (hR') rfl rfl ?_ | refine CallQ.mk (alive_eff) rfl rfl ?_ | refine CallQ.mk (like_nn) rfl rfl ?_); refine AWP.runL e tab_ok L3 300 rfl (by first | trivial | (simp [in64] <;> omega)) ?_)
      | (refine AWP.keep L3 rfl ?_; refine AWP.drg 100 ?_; (refine DrG.runN e tab_ok 200 rfl (by first | trivial | (simp [in64] <;> omega)) ?_); (repeat (first | (refine DrG.callQ e rfl rfl ?_; (first | refine CallVQ.mk (hN) rfl rfl ?_ | refine CallVQ.mk (hS) rfl rfl ?_ | refine CallVQ.mk (hG) rfl rfl ?_ | refine CallVQ.mk (hT) rfl rfl ?_ | refine CallVQ.mk (hE) rfl rfl ?_ | refine CallVQ.mk (hB) rfl rfl ?_ | refine CallVQ.mk (l1) rfl rfl ?_ | refine CallVQ.mk (l2) rfl rfl ?_ | refine CallVQ.mk (l3) rfl rfl ?_ | refine CallVQ.mk (l4) rfl rfl ?_ | refine CallVQ.mk (hR) rfl rfl ?_ | refine CallVQ.mk (hR') rfl rfl ?_ | refine CallVQ.mk (alive_eff) rfl rfl ?_ | refine CallVQ.mk (like_nn) rfl rfl ?_); (refine DrG.runN e tab_ok 200 rfl (by first | trivial | (simp [in64] <;> omega)) ?_)) | (refine DrG.callGo e rfl rfl rfl ?_; (first | refine CallVQ.mk (hN) rfl rfl ?_ | refine CallVQ.mk (hS) rfl rfl ?_ | refine CallVQ.mk (hG) rfl rfl ?_ | refine CallVQ.mk (hT) rfl rfl ?_ | refine CallVQ.mk (hE) rfl rfl ?_ | refine CallVQ.mk (hB) rfl rfl ?_ | refine CallVQ.mk (l1) rfl rfl ?_ | refine CallVQ.mk (l2) rfl rfl ?_ | refine CallVQ.mk (l3) rfl rfl ?_ | refine CallVQ.mk (l4) rfl rfl ?_ | refine CallVQ.mk (hR) rfl rfl ?_ | refine CallVQ.mk (hR') rfl rfl ?_ | refine CallVQ.mk (alive_eff) rfl rfl ?_ | refine CallVQ.mk (like_nn) rfl rfl ?_); (refine DrG.runN e tab_ok 200 rfl (by first | trivial | (simp [in64] <;> omega)) ?_)) | (refine DrG.callGoA e rfl ?_ rfl rfl ?_; (focus (first | assumption | with_reducible trivial | rfl | (simp; omega) | (simp [in64]; omega) | (simp [*]; done))); (first | refine CallVQ.mk (hN) rfl rfl ?_ | refine CallVQ.mk (hS) rfl rfl ?_ | refine CallVQ.mk (hG) rfl rfl ?_ | refine CallVQ.mk (hT) rfl rfl ?_ | refine CallVQ.mk (hE) rfl rfl ?_ | refine CallVQ.mk (hB) rfl rfl ?_ | refine CallVQ.mk (l1) rfl rfl ?_ | refine CallVQ.mk (l2) rfl rfl ?_ | refine CallVQ.mk (l3) rfl rfl ?_ | refine CallVQ.mk (l4) rfl rfl ?_ | refine CallVQ.mk (hR) rfl rfl ?_ | refine CallVQ.mk (hR') rfl rfl ?_ | refine CallVQ.mk (alive_eff) rfl rfl ?_ | refine CallVQ.mk (like_nn) rfl rfl ?_); (refine DrG.runN e tab_ok 200 rfl (by first | trivial | (simp [in64] <;> omega)) ?_)) | (refine DrG.v rfl (fun _ => VStep.goA rfl ?_ (VStep.ev e tab_ok rfl rfl ?_)) rfl ?_; (focus (first | assumption | with_reducible trivial | rfl | (simp; omega) | (simp [in64]; omega) | (simp [*]; done))); (focus (first | assumption | with_reducible trivial | rfl | (simp; omega) | (simp [in64]; omega) | (simp [*]; done))); (refine DrG.runN e tab_ok 200 rfl (by first | trivial | (simp [in64] <;> omega)) ?_)) | (refine DrG.loadGoA e tab_ok rfl ?_ rfl rfl rfl rfl rfl rfl ?_; (focus (first | assumption | with_reducible trivial | rfl | (simp; omega) | (simp [in64]; omega) | (simp [*]; done))); (refine DrG.runN e tab_ok 200 rfl (by first | trivial | (simp [in64] <;> omega)) ?_)) | (refine DrG.v rfl (fun _ => VStep.notA e rfl rfl ?_) rfl ?_; (focus (first | assumption | with_reducible trivial | rfl | (simp; omega) | (simp [in64]; omega) | (simp [*]; done))); (refine DrG.runN e tab_ok 200 rfl (by first | trivial | (simp [in64] <;> omega)) ?_)) | (refine DrG.v rfl (fun _ => VStep.pickA e rfl rfl (v := true) ?_ rfl) rfl ?_; (focus (first | assumption | with_reducible trivial | rfl | (simp; omega) | (simp []; omega) | (simp [*]; done))); (refine DrG.runN e tab_ok 200 rfl (by first | trivial | (simp [in64] <;> omega)) ?_)) | (refine DrG.v rfl (fun _ => VStep.pickA e rfl rfl (v := false) ?_ rfl) rfl ?_; (focus (first | assumption | with_reducible trivial | rfl | (simp; omega) | (simp [in64]; omega) | (simp [*]; done))); (refine DrG.runN e tab_ok 200 rfl (by first | trivial | (simp [in64] <;> omega)) ?_)))); refine DrG.fin e rfl ?_ rfl rfl rfl ?_ ?_; (focus kernel_rfl); (focus (repeat' (first | exact True.intro | (refine And.intro ?_ ?_) | rfl | assumption | exact okRow _))); dsimp only [tmS, hpS, tput, effH]; refine AWP.runL e tab_ok L3 300 rfl (by first | trivial | (simp [in64] <;> omega)) ?_)
    )
  refine AWP.ret e tab_ok rfl ?_
  rw [hP]
  all_goals first | rfl | (simp [strip]; done)

set_option maxRecDepth 100000 in
set_option maxHeartbeats 4000000 in
theorem calls_b3 (s0 g0 v0 s g v : List Int) (t at_ x : Int) (hs0 : s0.length ≤ 9223372036854775807) (hg0 : g0.length ≤ 9223372036854775807) (hv0 : v0.length ≤ 9223372036854775807) (hs : s = s0.take 20) (hg : g = g0.take 20) (hv : v = v0.take 20) (ls : s.length ≤ 20) (lg : g.length ≤ 20) (lv : v.length ≤ 20) (hr : rightG s g t = false) (v1 : 16 < v.length) :
    Eff Try.prog 3 [.agg (grp s0 g0 t), sl v0, .i at_, .i x] [] 0 (fun r _ _ => r = .b true) := by
  have hR := right_eff s g t
  have hR' := refRight_eff s g t
  have hN := new_bad v (by omega)
  have hS := set_bad s g t at_ x (by simp [hr])
  have hG := give_bad s g t (by simp [hr])
  have hT := take_bad s g v t (by simp [hr])
  have hE := get_bad s g t at_ (by simp [hr])
  have hB := back_bad s g t hr
  have l1 := like_self v v 0 lv lv
  have l2 := like_self v v (t + 1) lv lv
  have l3 := like_self s s (t + 1) ls ls
  have l4 := like_self g g t lg lg
  rw [hr] at hR hR'
  skip
  refine eff_of Try.func3 rfl rfl rfl fun cx e hP => ?_
  refine AWP.runL e tab_ok L3 300 rfl (by first | trivial | (simp [in64] <;> omega)) ?_
  refine AWP.callQ e rfl rfl ?_
  refine CallQ.mk (few_eff s0 g0 t hs0 hg0) rfl rfl ?_
  refine AWP.runL e tab_ok L3 300 rfl (by first | trivial | (simp [] <;> omega)) ?_
  refine AWP.less e (tm := [(31, sl v), (1, sl v), (2, .i at_), (3, .i x), (4, .ptr 0 0), (8, .b false)]) (hp := [(0, .box (grp s g t))]) (nx := 1) ?_ ?_ ?_ ?_ ?_ ?_
  · refine ⟨?_, ?_, rfl, rfl, rfl, rfl, trivial⟩
    · exact congrArg (fun z => some (SV.d (.sl 1 z))) ((take_ints 20 v0 (by omega)).trans (congrArg ints hv.symm))
    · exact congrArg (fun z => some (SV.d (.sl 1 z))) ((take_ints 20 v0 (by omega)).trans (congrArg ints hv.symm))
  · exact ⟨congrArg some (by rw [hs, hg]), trivial⟩
  · rfl
  · exact ⟨rfl, rfl, trivial⟩
  · rfl
  repeat (
    first
      | (refine AWP.askT rfl ?_; (first | (refine Told.t rfl ?_) | (refine Told.f rfl ?_) | (refine Told.t ?_ ?_; (focus (first | assumption | (simp; omega) | (simp [*]; done)); done)) | (refine Told.f ?_ ?_; (focus (first | assumption | (simp; omega) | (simp [*]; done)); done))); refine AWP.runL e tab_ok L3 300 rfl (by first | trivial | (simp [in64] <;> omega)) ?_)
      | (refine AWP.callQ e rfl rfl ?_; (first | refine CallQ.mk (hN) rfl rfl ?_ | refine CallQ.mk (hS) rfl rfl ?_ | refine CallQ.mk (hG) rfl rfl ?_ | refine CallQ.mk (hT) rfl rfl ?_ | refine CallQ.mk (hE) rfl rfl ?_ | refine CallQ.mk (hB) rfl rfl ?_ | refine CallQ.mk (l1) rfl rfl ?_ | refine CallQ.mk (l2) rfl rfl ?_ | refine CallQ.mk (l3) rfl rfl ?_ | refine CallQ.mk (l4) rfl rfl ?_ | refine CallQ.mk (hR) rfl rfl ?_ | refine CallQ.mk (hR') rfl rfl ?_ | refine CallQ.mk (alive_eff) rfl rfl ?_ | refine CallQ.mk (like_nn) rfl rfl ?_); refine AWP.runL e tab_ok L3 300 rfl (by first | trivial | (simp [in64] <;> omega)) ?_)
      | (refine AWP.keep L3 rfl ?_; refine AWP.drg 100 ?_; (refine DrG.runN e tab_ok 200 rfl (by first | trivial | (simp [in64] <;> omega)) ?_); (repeat (first | (refine DrG.callQ e rfl rfl ?_; (first | refine CallVQ.mk (hN) rfl rfl ?_ | refine CallVQ.mk (hS) rfl rfl ?_ | refine CallVQ.mk (hG) rfl rfl ?_ | refine CallVQ.mk (hT) rfl rfl ?_ | refine CallVQ.mk (hE) rfl rfl ?_ | refine CallVQ.mk (hB) rfl rfl ?_ | refine CallVQ.mk (l1) rfl rfl ?_ | refine CallVQ.mk (l2) rfl rfl ?_ | refine CallVQ.mk (l3) rfl rfl ?_ | refine CallVQ.mk (l4) rfl rfl ?_ | refine CallVQ.mk (hR) rfl rfl ?_ | refine CallVQ.mk (hR') rfl rfl ?_ | refine CallVQ.mk (alive_eff) rfl rfl ?_ | refine CallVQ.mk (like_nn) rfl rfl ?_); (refine DrG.runN e tab_ok 200 rfl (by first | trivial | (simp [in64] <;> omega)) ?_)) | (refine DrG.callGo e rfl rfl rfl ?_; (first | refine CallVQ.mk (hN) rfl rfl ?_ | refine CallVQ.mk (hS) rfl rfl ?_ | refine CallVQ.mk (hG) rfl rfl ?_ | refine CallVQ.mk (hT) rfl rfl ?_ | refine CallVQ.mk (hE) rfl rfl ?_ | refine CallVQ.mk (hB) rfl rfl ?_ | refine CallVQ.mk (l1) rfl rfl ?_ | refine CallVQ.mk (l2) rfl rfl ?_ | refine CallVQ.mk (l3) rfl rfl ?_ | refine CallVQ.mk (l4) rfl rfl ?_ | refine CallVQ.mk (hR) rfl rfl ?_ | refine CallVQ.mk (hR') rfl rfl ?_ | refine CallVQ.mk (alive_eff) rfl rfl ?_ | refine CallVQ.mk (like_nn) rfl rfl ?_); (refine DrG.runN e tab_ok 200 rfl (by first | trivial | (simp [in64] <;> omega)) ?_)) | (refine DrG.callGoA e rfl ?_ rfl rfl ?_; (focus (first | assumption | with_reducible trivial | rfl | (simp; omega) | (simp [in64]; omega) | (simp [*]; done))); (first | refine CallVQ.mk (hN) rfl rfl ?_ | refine CallVQ.mk (hS) rfl rfl ?_ | refine CallVQ.mk (hG) rfl rfl ?_ | refine CallVQ.mk (hT) rfl rfl ?_ | refine CallVQ.mk (hE) rfl rfl ?_ | refine CallVQ.mk (hB) rfl rfl ?_ | refine CallVQ.mk (l1) rfl rfl ?_ | refine CallVQ.mk (l2) rfl rfl ?_ | refine CallVQ.mk (l3) rfl rfl ?_ | refine CallVQ.mk (l4) rfl rfl ?_ | refine CallVQ.mk (hR) rfl rfl ?_ | refine CallVQ.mk (hR') rfl rfl ?_ | refine CallVQ.mk (alive_eff) rfl rfl ?_ | refine CallVQ.mk (like_nn) rfl rfl ?_); (refine DrG.runN e tab_ok 200 rfl (by first | trivial | (simp [in64] <;> omega)) ?_)) | (refine DrG.v rfl (fun _ => VStep.goA rfl ?_ (VStep.ev e tab_ok rfl rfl ?_)) rfl ?_; (focus (first | assumption | with_reducible trivial | rfl | (simp; omega) | (simp [in64]; omega) | (simp [*]; done))); (focus (first | assumption | with_reducible trivial | rfl | (simp; omega) | (simp [in64]; omega) | (simp [*]; done))); (refine DrG.runN e tab_ok 200 rfl (by first | trivial | (simp [in64] <;> omega)) ?_)) | (refine DrG.loadGoA e tab_ok rfl ?_ rfl rfl rfl rfl rfl rfl ?_; (focus (first | assumption | with_reducible trivial | rfl | (simp; omega) | (simp [in64]; omega) | (simp [*]; done))); (refine DrG.runN e tab_ok 200 rfl (by first | trivial | (simp [in64] <;> omega)) ?_)) | (refine DrG.v rfl (fun _ => VStep.notA e rfl rfl ?_) rfl ?_; (focus (first | assumption | with_reducible trivial | rfl | (simp; omega) | (simp [in64]; omega) | (simp [*]; done))); (refine DrG.runN e tab_ok 200 rfl (by first | trivial | (simp [in64] <;> omega)) ?_)) | (refine DrG.v rfl (fun _ => VStep.pickA e rfl rfl (v := true) ?_ rfl) rfl ?_; (focus (first | assumption | with_reducible trivial | rfl | (simp; omega) | (simp []; omega) | (simp [*]; done))); (refine DrG.runN e tab_ok 200 rfl (by first | trivial | (simp [in64] <;> omega)) ?_)) | (refine DrG.v rfl (fun _ => VStep.pickA e rfl rfl (v := false) ?_ rfl) rfl ?_; (focus (first | assumption | with_reducible trivial | rfl | (simp; omega) | (simp [in64]; omega) | (simp [*]; done))); (refine DrG.runN e tab_ok 200 rfl (by first | trivial | (simp [in64] <;> omega)) ?_)))); refine DrG.fin e rfl ?_ rfl rfl rfl ?_ ?_; (focus kernel_rfl); (focus (repeat' (first | exact True.intro | (refine And.intro ?_ ?_) | rfl | assumption | exact okRow _))); dsimp only [tmS, hpS, tput, effH]; refine AWP.runL e tab_ok L3 300 rfl (by first | trivial | (simp [in64] <;> omega)) ?_)
    )
  refine AWP.ret e tab_ok rfl ?_
  rw [hP]
  all_goals first | rfl | (simp [strip]; done)

end Go.Proofs.Ytkilkilejnaflaa
