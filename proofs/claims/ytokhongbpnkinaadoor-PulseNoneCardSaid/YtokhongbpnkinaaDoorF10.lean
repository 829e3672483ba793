import Derived.Test.YtokhongbpnkinaaDoorF9
import Derived.Lib.IndexMore
open Go Go.Proofs Go.Sy Go.Pulse
namespace Go.Proofs.YtokhongbpnkinaaDoor

theorem has_iff (s sub : List UInt8) : Lib.contains s sub = true ↔ has s sub := by
  unfold Lib.contains
  rw [decide_eq_true_eq]
  rcases Lib.index_spec s sub with ⟨h1, h2⟩ | ⟨i, h1, h2, h3, _⟩
  · rw [h1]
    constructor
    · intro h; exact absurd h (by decide)
    · rintro ⟨u, v, rfl⟩
      have := h2 u.length (by simp)
      unfold Lib.occAt at this
      rw [List.drop_left] at this
      have h3 : sub.isPrefixOf (sub ++ v) = true := List.isPrefixOf_iff_prefix.2 ⟨v, rfl⟩
      rw [h3] at this
      cases this
  · rw [h1]
    constructor
    · intro _
      unfold Lib.occAt at h3
      obtain ⟨v, hv⟩ := List.isPrefixOf_iff_prefix.1 h3
      exact ⟨s.take i, v, by rw [hv, List.take_append_drop]⟩
    · intro _; omega
theorem has_eff (l m : List UInt8) (hl : l.length ≤ 5000) {b : Bool} (h : Lib.contains l m = b) : EffG Tryd.prog 16 [.s (strL l), .s (strL m)] (HasInt 0) (fun r _ _ => r = .b b) := by
  subst h
  refine effG_calls [.string (strL l), .string (strL m)] Tryd.func16 rfl rfl fun w hG => ?_
  obtain ⟨k, hm⟩ := hG
  refine (Any.strings_Contains Tryd.lays144 (strL l) (strL m) k w (by rw [strL_size]; omega) hm).mono ?_
  rintro e w' ⟨rfl, rfl⟩
  refine ⟨?_, ⟨rfl, rfl, rfl, Nat.le_refl _, fun _ _ => rfl⟩⟩
  rw [strL_data, strL_data]
theorem rep_one (c : UInt8) : ∀ k, Lib.repeatL [c] k = List.replicate k c
  | 0 => rfl
  | k + 1 => by rw [Lib.repeatL, rep_one c k, List.replicate_succ]; rfl
theorem rep_eff (c : UInt8) (k : Nat) (hk : k ≤ 1000) : Eff Tryd.prog 15 [.s (strL [c]), .i k] [] 0 (fun r _ _ => r = .s (strL (List.replicate k c))) := by
  refine eff_calls [.string (strL [c]), .int .i64 k] Tryd.func15 rfl rfl fun w => ?_
  have h := Any.strings_Repeat Tryd.lays105 Tryd.Builder_Extra_105 (strL [c]) k w (by omega) (by rw [strL_size]; simp; omega)
  rw [strL_data, rep_one] at h
  exact h
theorem gc (cx : Cx) (hF : ∀ b, ¬ cx.F b) (hG : HasInt 0 cx.w0) (l m : List UInt8) (hl : l.length ≤ 5000) {b : Bool} (h : Lib.contains l m = b) : GC cx Tryd.prog 16 [.s (strL l), .s (strL m)] (.b b) := ⟨HasInt 0, HasInt.st 0, hF, hG, has_eff l m hl h⟩
theorem well_rep (c : UInt8) (hc : bit c = true) (k : Nat) (hk : k ≤ 1000) : wellB (List.replicate k c) = true := by
  unfold wellB
  simp only [Bool.and_eq_true, decide_eq_true_eq, List.length_replicate]
  refine ⟨by omega, List.all_eq_true.2 fun d hd => ?_⟩
  rw [List.eq_of_mem_replicate hd]; exact hc
theorem right_new {n : Nat} (h1 : 1 ≤ n) (h2 : n ≤ 100) : rightP n 10000 x0 = true := by
  unfold rightP
  refine decide_eq_true ⟨by omega, by omega, by omega, by decide, by decide, by decide, by decide, ?_, by decide, by decide, fun _ => rfl⟩
  show (0 : Int) < n
  omega
theorem fnd_quiet (c : UInt8) (hc : isB c) (least q : Nat) (h1 : 1 ≤ least) (h2 : least ≤ 100) (hq : q ≤ 1000) : Eff Tryd.prog 8 [.agg (pC least 10000 x0), .s (strL (List.replicate q c))] [] 0 (fun r _ _ => r = .tup [.i 0, .i 21]) := by
  have hr : rightP least 10000 x0 = true := by
    exact right_new h1 h2
  have h := find_ok least 10000 x0 (List.replicate q c) hr (well_rep c (by rcases hc with rfl | rfl <;> rfl) q hq)
  have h0 : fnd least 10000 x0 (List.replicate q c) = 0 := by
    refine none_fnd _ hr ?_
    rintro ⟨g1, g2⟩
    rcases hc with rfl | rfl
    · exact not_has 48 49 (by decide) q least h1 g2
    · exact not_has 49 48 (by decide) q least h1 g1
  unfold findR at h
  rw [h0] at h
  exact h
set_option maxRecDepth 100000 in
set_option maxHeartbeats 4000000 in
theorem pnone_ok (s l : List UInt8) (least quiet : Int) (n q : Nat) (h1 : 1 ≤ n) (h2 : n ≤ 100) (hq : q ≤ 1000) (hn : (if (100 : Int) < (if (1 : Int) > least then 1 else least) then 100 else (if (1 : Int) > least then 1 else least)) = (n : Int)) (hqq : (if (1000 : Int) < (if (0 : Int) > quiet then 0 else quiet) then 1000 else (if (0 : Int) > quiet then 0 else quiet)) = (q : Int)) (hl : l.length ≤ 500) (hcut : (strL s).extract 0 (if (500 : Int) < ((strL s).size : Int) then (500 : Int) else ((strL s).size : Int)).toNat = strL l) : EffG Tryd.prog 5 [.s (strL s), .i least, .i quiet] (HasInt 0) (fun r _ _ => r = .b true) := by
  have al := alive_eff
  have w := refright_eff l (by omega)
  have hr : rightP n 10000 x0 = true := by
    exact right_new h1 h2
  have c1 := new_eff n 10000
  rw [if_pos hr] at c1
  have r1 := rep_eff 49 q hq
  have r0 := rep_eff 48 q hq
  have s1 := rep_eff 49 n (by omega)
  have s0 := rep_eff 48 n (by omega)
  have f1 := fnd_quiet 49 (.inr rfl) n q h1 h2 hq
  have f0 := fnd_quiet 48 (.inl rfl) n q h1 h2 hq
  unfold pC at c1 f1 f0
  dsimp only at c1 f1 f0
  rcases cases_b (wellB l) with hw | hw <;> rw [hw] at w
  · have c2 := al
    rcases cases_b (Lib.contains l (List.replicate n 48)) with q0 | q0
    · rcases cases_b (Lib.contains l (List.replicate n 49)) with q1 | q1
      · refine effG_of Tryd.func5 rfl rfl rfl fun cx e hP hF hG => ?_
        refine AWP.runL e tab_ok L5 300 rfl (by first | trivial | (simp [] <;> omega) | (simp only [in64, true_and, and_true]; omega)) ?_
        refine AWP.eqT 0 (.s (strL l)) rfl (congrArg SV.s hcut) ?_
        refine AWP.eqT 1 (.i n) rfl (congrArg SV.i hn) ?_
        refine AWP.eqT 27 (.i n) rfl (congrArg SV.i hn) ?_
        refine AWP.eqT 2 (.i q) rfl (congrArg SV.i hqq) ?_
        clear hcut hn hqq
        have k0 := gc cx hF hG l (List.replicate n 48) (by omega) q0
        have k1 := gc cx hF hG l (List.replicate n 49) (by omega) q1
        repeat (
          first
            | (refine AWP.askT rfl ?_; (first | (refine Told.t rfl ?_) | (refine Told.f rfl ?_) | (refine Told.t ?_ ?_; (focus assumption)) | (refine Told.f ?_ ?_; (focus assumption)) | (refine Told.t ?_ ?_; (focus (first | (simp; omega) | (simp [*]; done)); done)) | (refine Told.f ?_ ?_; (focus (first | (simp; omega) | (simp [*]; done)); done))); refine AWP.runL e tab_ok L5 300 rfl (by first | trivial | (simp [in64] <;> omega) | (simp only [in64, true_and, and_true]; omega)) ?_)
            | (refine AWP.callQ e rfl rfl ?_; (first | refine CallQ.mk (c1) rfl rfl ?_ | refine CallQ.mk (c2) rfl rfl ?_ | refine CallQ.mk (r1) rfl rfl ?_ | refine CallQ.mk (r0) rfl rfl ?_ | refine CallQ.mk (f1) rfl rfl ?_ | refine CallQ.mk (f0) rfl rfl ?_ | refine CallQ.mk (al) rfl rfl ?_ | refine CallQ.mk (w) rfl rfl ?_ | refine CallQ.mk (s1) rfl rfl ?_ | refine CallQ.mk (s0) rfl rfl ?_); refine AWP.runL e tab_ok L5 300 rfl (by first | trivial | (simp [in64] <;> omega) | (simp only [in64, true_and, and_true]; omega)) ?_)
            | (refine AWP.eq_agg e tab_ok rfl rfl rfl (.inl ⟨rfl, rfl⟩) ?_ 5 (by omega) rfl ?_ rfl rfl rfl rfl rfl rfl rfl ?_; (focus kernel_rfl); (focus kernel_rfl); refine AWP.runL e tab_ok L5 300 rfl (by first | trivial | (simp [in64] <;> omega) | (simp only [in64, true_and, and_true]; omega)) ?_)
            | (refine AWP.eq_agg e tab_ok rfl rfl rfl (.inr ⟨rfl, rfl⟩) ?_ 5 (by omega) rfl ?_ rfl rfl rfl rfl rfl rfl rfl ?_; (focus kernel_rfl); (focus kernel_rfl); refine AWP.runL e tab_ok L5 300 rfl (by first | trivial | (simp [in64] <;> omega) | (simp only [in64, true_and, and_true]; omega)) ?_)
            | (refine AWP.callG' e k0 rfl rfl rfl rfl ?_; refine AWP.runL e tab_ok L5 300 rfl (by first | trivial | (simp [in64] <;> omega) | (simp only [in64, true_and, and_true]; omega)) ?_)
            | (refine AWP.callG' e k1 rfl rfl rfl rfl ?_; refine AWP.runL e tab_ok L5 300 rfl (by first | trivial | (simp [in64] <;> omega) | (simp only [in64, true_and, and_true]; omega)) ?_)
            | (refine AWP.keep L5 rfl ?_; refine AWP.drg 100 ?_; (refine DrG.runS e tab_ok 200 rfl (by first | trivial | (simp [in64] <;> omega) | (simp only [in64, true_and, and_true]; omega)) ?_); (repeat (first | (refine DrG.askT rfl ?_; (first | (refine Told.t rfl ?_) | (refine Told.f rfl ?_) | (refine Told.t ?_ ?_; (focus assumption)) | (refine Told.f ?_ ?_; (focus assumption)) | (refine Told.t ?_ ?_; (focus (first | (simp; omega) | (simp [*]; done)); done)) | (refine Told.f ?_ ?_; (focus (first | (simp; omega) | (simp [*]; done)); done))); (refine DrG.runS e tab_ok 200 rfl (by first | trivial | (simp [in64] <;> omega) | (simp only [in64, true_and, and_true]; omega)) ?_)) | (refine DrG.callQ e rfl rfl ?_; (first | refine CallVQ.mk (c1) rfl rfl ?_ | refine CallVQ.mk (c2) rfl rfl ?_ | refine CallVQ.mk (r1) rfl rfl ?_ | refine CallVQ.mk (r0) rfl rfl ?_ | refine CallVQ.mk (f1) rfl rfl ?_ | refine CallVQ.mk (f0) rfl rfl ?_ | refine CallVQ.mk (al) rfl rfl ?_ | refine CallVQ.mk (w) rfl rfl ?_ | refine CallVQ.mk (s1) rfl rfl ?_ | refine CallVQ.mk (s0) rfl rfl ?_); (refine DrG.runS e tab_ok 200 rfl (by first | trivial | (simp [in64] <;> omega) | (simp only [in64, true_and, and_true]; omega)) ?_)) | (refine DrG.callGo e rfl rfl rfl ?_; (first | refine CallVQ.mk (c1) rfl rfl ?_ | refine CallVQ.mk (c2) rfl rfl ?_ | refine CallVQ.mk (r1) rfl rfl ?_ | refine CallVQ.mk (r0) rfl rfl ?_ | refine CallVQ.mk (f1) rfl rfl ?_ | refine CallVQ.mk (f0) rfl rfl ?_ | refine CallVQ.mk (al) rfl rfl ?_ | refine CallVQ.mk (w) rfl rfl ?_ | refine CallVQ.mk (s1) rfl rfl ?_ | refine CallVQ.mk (s0) rfl rfl ?_); (refine DrG.runS e tab_ok 200 rfl (by first | trivial | (simp [in64] <;> omega) | (simp only [in64, true_and, and_true]; omega)) ?_)) | (refine DrG.eq_agg e tab_ok rfl rfl rfl (.inl ⟨rfl, rfl⟩) ?_ 5 (by omega) rfl ?_ rfl rfl rfl rfl rfl rfl rfl ?_; (focus kernel_rfl); (focus kernel_rfl); (refine DrG.runS e tab_ok 200 rfl (by first | trivial | (simp [in64] <;> omega) | (simp only [in64, true_and, and_true]; omega)) ?_)) | (refine DrG.eq_aggGo e tab_ok rfl rfl rfl rfl (.inl ⟨rfl, rfl⟩) ?_ 5 (by omega) rfl ?_ rfl rfl rfl rfl rfl rfl rfl ?_; (focus kernel_rfl); (focus kernel_rfl); (refine DrG.runS e tab_ok 200 rfl (by first | trivial | (simp [in64] <;> omega) | (simp only [in64, true_and, and_true]; omega)) ?_)) | (refine DrG.eq_agg e tab_ok rfl rfl rfl (.inr ⟨rfl, rfl⟩) ?_ 5 (by omega) rfl ?_ rfl rfl rfl rfl rfl rfl rfl ?_; (focus kernel_rfl); (focus kernel_rfl); (refine DrG.runS e tab_ok 200 rfl (by first | trivial | (simp [in64] <;> omega) | (simp only [in64, true_and, and_true]; omega)) ?_)) | (refine DrG.eq_aggGo e tab_ok rfl rfl rfl rfl (.inr ⟨rfl, rfl⟩) ?_ 5 (by omega) rfl ?_ rfl rfl rfl rfl rfl rfl rfl ?_; (focus kernel_rfl); (focus kernel_rfl); (refine DrG.runS e tab_ok 200 rfl (by first | trivial | (simp [in64] <;> omega) | (simp only [in64, true_and, and_true]; omega)) ?_)) | (refine DrG.callGG e k0 rfl rfl rfl rfl rfl ?_; (refine DrG.runS e tab_ok 200 rfl (by first | trivial | (simp [in64] <;> omega) | (simp only [in64, true_and, and_true]; omega)) ?_)) | (refine DrG.callGG e k1 rfl rfl rfl rfl rfl ?_; (refine DrG.runS e tab_ok 200 rfl (by first | trivial | (simp [in64] <;> omega) | (simp only [in64, true_and, and_true]; omega)) ?_)))); refine DrG.finK e rfl ?_ rfl rfl rfl ?_ ?_; (focus kernel_rfl); (focus (repeat' (first | exact True.intro | (refine And.intro ?_ ?_) | rfl | assumption | exact okRow _))); dsimp only [tmS, hpS, tput, effH]; refine AWP.runL e tab_ok L5 300 rfl (by first | trivial | (simp [in64] <;> omega) | (simp only [in64, true_and, and_true]; omega)) ?_)
          )
        refine AWP.ret e tab_ok rfl ?_
        rw [hP]
        all_goals first | rfl | (simp [strip]; done)
      · have hz : fnd n 10000 x0 l = 0 := by
          refine none_fnd l hr ?_
          rintro ⟨g1, g2⟩
          rw [← has_iff] at g1 g2
          rw [Int.toNat_natCast] at g1 g2
          first | (rw [g1] at q0; cases q0; done) | (rw [g2] at q1; cases q1; done)
        have c2 := find_ok n 10000 x0 l hr hw
        unfold findR at c2
        rw [hz] at c2
        rw [if_pos rfl] at c2
        unfold pC at c2
        dsimp only at c2
        refine effG_of Tryd.func5 rfl rfl rfl fun cx e hP hF hG => ?_
        refine AWP.runL e tab_ok L5 300 rfl (by first | trivial | (simp [] <;> omega) | (simp only [in64, true_and, and_true]; omega)) ?_
        refine AWP.eqT 0 (.s (strL l)) rfl (congrArg SV.s hcut) ?_
        refine AWP.eqT 1 (.i n) rfl (congrArg SV.i hn) ?_
        refine AWP.eqT 27 (.i n) rfl (congrArg SV.i hn) ?_
        refine AWP.eqT 2 (.i q) rfl (congrArg SV.i hqq) ?_
        clear hcut hn hqq
        have k0 := gc cx hF hG l (List.replicate n 48) (by omega) q0
        have k1 := gc cx hF hG l (List.replicate n 49) (by omega) q1
        repeat (
          first
            | (refine AWP.askT rfl ?_; (first | (refine Told.t rfl ?_) | (refine Told.f rfl ?_) | (refine Told.t ?_ ?_; (focus assumption)) | (refine Told.f ?_ ?_; (focus assumption)) | (refine Told.t ?_ ?_; (focus (first | (simp; omega) | (simp [*]; done)); done)) | (refine Told.f ?_ ?_; (focus (first | (simp; omega) | (simp [*]; done)); done))); refine AWP.runL e tab_ok L5 300 rfl (by first | trivial | (simp [in64] <;> omega) | (simp only [in64, true_and, and_true]; omega)) ?_)
            | (refine AWP.callQ e rfl rfl ?_; (first | refine CallQ.mk (c1) rfl rfl ?_ | refine CallQ.mk (c2) rfl rfl ?_ | refine CallQ.mk (r1) rfl rfl ?_ | refine CallQ.mk (r0) rfl rfl ?_ | refine CallQ.mk (f1) rfl rfl ?_ | refine CallQ.mk (f0) rfl rfl ?_ | refine CallQ.mk (al) rfl rfl ?_ | refine CallQ.mk (w) rfl rfl ?_ | refine CallQ.mk (s1) rfl rfl ?_ | refine CallQ.mk (s0) rfl rfl ?_); refine AWP.runL e tab_ok L5 300 rfl (by first | trivial | (simp [in64] <;> omega) | (simp only [in64, true_and, and_true]; omega)) ?_)
            | (refine AWP.eq_agg e tab_ok rfl rfl rfl (.inl ⟨rfl, rfl⟩) ?_ 5 (by omega) rfl ?_ rfl rfl rfl rfl rfl rfl rfl ?_; (focus kernel_rfl); (focus kernel_rfl); refine AWP.runL e tab_ok L5 300 rfl (by first | trivial | (simp [in64] <;> omega) | (simp only [in64, true_and, and_true]; omega)) ?_)
            | (refine AWP.eq_agg e tab_ok rfl rfl rfl (.inr ⟨rfl, rfl⟩) ?_ 5 (by omega) rfl ?_ rfl rfl rfl rfl rfl rfl rfl ?_; (focus kernel_rfl); (focus kernel_rfl); refine AWP.runL e tab_ok L5 300 rfl (by first | trivial | (simp [in64] <;> omega) | (simp only [in64, true_and, and_true]; omega)) ?_)
            | (refine AWP.callG' e k0 rfl rfl rfl rfl ?_; refine AWP.runL e tab_ok L5 300 rfl (by first | trivial | (simp [in64] <;> omega) | (simp only [in64, true_and, and_true]; omega)) ?_)
            | (refine AWP.callG' e k1 rfl rfl rfl rfl ?_; refine AWP.runL e tab_ok L5 300 rfl (by first | trivial | (simp [in64] <;> omega) | (simp only [in64, true_and, and_true]; omega)) ?_)
            | (refine AWP.keep L5 rfl ?_; refine AWP.drg 100 ?_; (refine DrG.runS e tab_ok 200 rfl (by first | trivial | (simp [in64] <;> omega) | (simp only [in64, true_and, and_true]; omega)) ?_); (repeat (first | (refine DrG.askT rfl ?_; (first | (refine Told.t rfl ?_) | (refine Told.f rfl ?_) | (refine Told.t ?_ ?_; (focus assumption)) | (refine Told.f ?_ ?_; (focus assumption)) | (refine Told.t ?_ ?_; (focus (first | (simp; omega) | (simp [*]; done)); done)) | (refine Told.f ?_ ?_; (focus (first | (simp; omega) | (simp [*]; done)); done))); (refine DrG.runS e tab_ok 200 rfl (by first | trivial | (simp [in64] <;> omega) | (simp only [in64, true_and, and_true]; omega)) ?_)) | (refine DrG.callQ e rfl rfl ?_; (first | refine CallVQ.mk (c1) rfl rfl ?_ | refine CallVQ.mk (c2) rfl rfl ?_ | refine CallVQ.mk (r1) rfl rfl ?_ | refine CallVQ.mk (r0) rfl rfl ?_ | refine CallVQ.mk (f1) rfl rfl ?_ | refine CallVQ.mk (f0) rfl rfl ?_ | refine CallVQ.mk (al) rfl rfl ?_ | refine CallVQ.mk (w) rfl rfl ?_ | refine CallVQ.mk (s1) rfl rfl ?_ | refine CallVQ.mk (s0) rfl rfl ?_); (refine DrG.runS e tab_ok 200 rfl (by first | trivial | (simp [in64] <;> omega) | (simp only [in64, true_and, and_true]; omega)) ?_)) | (refine DrG.callGo e rfl rfl rfl ?_; (first | refine CallVQ.mk (c1) rfl rfl ?_ | refine CallVQ.mk (c2) rfl rfl ?_ | refine CallVQ.mk (r1) rfl rfl ?_ | refine CallVQ.mk (r0) rfl rfl ?_ | refine CallVQ.mk (f1) rfl rfl ?_ | refine CallVQ.mk (f0) rfl rfl ?_ | refine CallVQ.mk (al) rfl rfl ?_ | refine CallVQ.mk (w) rfl rfl ?_ | refine CallVQ.mk (s1) rfl rfl ?_ | refine CallVQ.mk (s0) rfl rfl ?_); (refine DrG.runS e tab_ok 200 rfl (by first | trivial | (simp [in64] <;> omega) | (simp only [in64, true_and, and_true]; omega)) ?_)) | (refine DrG.eq_agg e tab_ok rfl rfl rfl (.inl ⟨rfl, rfl⟩) ?_ 5 (by omega) rfl ?_ rfl rfl rfl rfl rfl rfl rfl ?_; (focus kernel_rfl); (focus kernel_rfl); (refine DrG.runS e tab_ok 200 rfl (by first | trivial | (simp [in64] <;> omega) | (simp only [in64, true_and, and_true]; omega)) ?_)) | (refine DrG.eq_aggGo e tab_ok rfl rfl rfl rfl (.inl ⟨rfl, rfl⟩) ?_ 5 (by omega) rfl ?_ rfl rfl rfl rfl rfl rfl rfl ?_; (focus kernel_rfl); (focus kernel_rfl); (refine DrG.runS e tab_ok 200 rfl (by first | trivial | (simp [in64] <;> omega) | (simp only [in64, true_and, and_true]; omega)) ?_)) | (refine DrG.eq_agg e tab_ok rfl rfl rfl (.inr ⟨rfl, rfl⟩) ?_ 5 (by omega) rfl ?_ rfl rfl rfl rfl rfl rfl rfl ?_; (focus kernel_rfl); (focus kernel_rfl); (refine DrG.runS e tab_ok 200 rfl (by first | trivial | (simp [in64] <;> omega) | (simp only [in64, true_and, and_true]; omega)) ?_)) | (refine DrG.eq_aggGo e tab_ok rfl rfl rfl rfl (.inr ⟨rfl, rfl⟩) ?_ 5 (by omega) rfl ?_ rfl rfl rfl rfl rfl rfl rfl ?_; (focus kernel_rfl); (focus kernel_rfl); (refine DrG.runS e tab_ok 200 rfl (by first | trivial | (simp [in64] <;> omega) | (simp only [in64, true_and, and_true]; omega)) ?_)) | (refine DrG.callGG e k0 rfl rfl rfl rfl rfl ?_; (refine DrG.runS e tab_ok 200 rfl (by first | trivial | (simp [in64] <;> omega) | (simp only [in64, true_and, and_true]; omega)) ?_)) | (refine DrG.callGG e k1 rfl rfl rfl rfl rfl ?_; (refine DrG.runS e tab_ok 200 rfl (by first | trivial | (simp [in64] <;> omega) | (simp only [in64, true_and, and_true]; omega)) ?_)))); refine DrG.finK e rfl ?_ rfl rfl rfl ?_ ?_; (focus kernel_rfl); (focus (repeat' (first | exact True.intro | (refine And.intro ?_ ?_) | rfl | assumption | exact okRow _))); dsimp only [tmS, hpS, tput, effH]; refine AWP.runL e tab_ok L5 300 rfl (by first | trivial | (simp [in64] <;> omega) | (simp only [in64, true_and, and_true]; omega)) ?_)
          )
        refine AWP.ret e tab_ok rfl ?_
        rw [hP]
        all_goals first | rfl | (simp [strip]; done)
    · have hz : fnd n 10000 x0 l = 0 := by
        refine none_fnd l hr ?_
        rintro ⟨g1, g2⟩
        rw [← has_iff] at g1 g2
        rw [Int.toNat_natCast] at g1 g2
        first | (rw [g1] at q0; cases q0; done) | (rw [g2] at q1; cases q1; done)
      have c2 := find_ok n 10000 x0 l hr hw
      unfold findR at c2
      rw [hz] at c2
      rw [if_pos rfl] at c2
      unfold pC at c2
      dsimp only at c2
      refine effG_of Tryd.func5 rfl rfl rfl fun cx e hP hF hG => ?_
      refine AWP.runL e tab_ok L5 300 rfl (by first | trivial | (simp [] <;> omega) | (simp only [in64, true_and, and_true]; omega)) ?_
      refine AWP.eqT 0 (.s (strL l)) rfl (congrArg SV.s hcut) ?_
      refine AWP.eqT 1 (.i n) rfl (congrArg SV.i hn) ?_
      refine AWP.eqT 27 (.i n) rfl (congrArg SV.i hn) ?_
      refine AWP.eqT 2 (.i q) rfl (congrArg SV.i hqq) ?_
      clear hcut hn hqq
      have k0 := gc cx hF hG l (List.replicate n 48) (by omega) q0
      have k1 := gc cx hF hG l (List.replicate n 48) (by omega) q0
      repeat (
        first
          | (refine AWP.askT rfl ?_; (first | (refine Told.t rfl ?_) | (refine Told.f rfl ?_) | (refine Told.t ?_ ?_; (focus assumption)) | (refine Told.f ?_ ?_; (focus assumption)) | (refine Told.t ?_ ?_; (focus (first | (simp; omega) | (simp [*]; done)); done)) | (refine Told.f ?_ ?_; (focus (first | (simp; omega) | (simp [*]; done)); done))); refine AWP.runL e tab_ok L5 300 rfl (by first | trivial | (simp [in64] <;> omega) | (simp only [in64, true_and, and_true]; omega)) ?_)
          | (refine AWP.callQ e rfl rfl ?_; (first | refine CallQ.mk (c1) rfl rfl ?_ | refine CallQ.mk (c2) rfl rfl ?_ | refine CallQ.mk (r1) rfl rfl ?_ | refine CallQ.mk (r0) rfl rfl ?_ | refine CallQ.mk (f1) rfl rfl ?_ | refine CallQ.mk (f0) rfl rfl ?_ | refine CallQ.mk (al) rfl rfl ?_ | refine CallQ.mk (w) rfl rfl ?_ | refine CallQ.mk (s1) rfl rfl ?_ | refine CallQ.mk (s0) rfl rfl ?_); refine AWP.runL e tab_ok L5 300 rfl (by first | trivial | (simp [in64] <;> omega) | (simp only [in64, true_and, and_true]; omega)) ?_)
          | (refine AWP.eq_agg e tab_ok rfl rfl rfl (.inl ⟨rfl, rfl⟩) ?_ 5 (by omega) rfl ?_ rfl rfl rfl rfl rfl rfl rfl ?_; (focus kernel_rfl); (focus kernel_rfl); refine AWP.runL e tab_ok L5 300 rfl (by first | trivial | (simp [in64] <;> omega) | (simp only [in64, true_and, and_true]; omega)) ?_)
          | (refine AWP.eq_agg e tab_ok rfl rfl rfl (.inr ⟨rfl, rfl⟩) ?_ 5 (by omega) rfl ?_ rfl rfl rfl rfl rfl rfl rfl ?_; (focus kernel_rfl); (focus kernel_rfl); refine AWP.runL e tab_ok L5 300 rfl (by first | trivial | (simp [in64] <;> omega) | (simp only [in64, true_and, and_true]; omega)) ?_)
          | (refine AWP.callG' e k0 rfl rfl rfl rfl ?_; refine AWP.runL e tab_ok L5 300 rfl (by first | trivial | (simp [in64] <;> omega) | (simp only [in64, true_and, and_true]; omega)) ?_)
          | (refine AWP.callG' e k1 rfl rfl rfl rfl ?_; refine AWP.runL e tab_ok L5 300 rfl (by first | trivial | (simp [in64] <;> omega) | (simp only [in64, true_and, and_true]; omega)) ?_)
          | (refine AWP.keep L5 rfl ?_; refine AWP.drg 100 ?_; (refine DrG.runS e tab_ok 200 rfl (by first | trivial | (simp [in64] <;> omega) | (simp only [in64, true_and, and_true]; omega)) ?_); (repeat (first | (refine DrG.askT rfl ?_; (first | (refine Told.t rfl ?_) | (refine Told.f rfl ?_) | (refine Told.t ?_ ?_; (focus assumption)) | (refine Told.f ?_ ?_; (focus assumption)) | (refine Told.t ?_ ?_; (focus (first | (simp; omega) | (simp [*]; done)); done)) | (refine Told.f ?_ ?_; (focus (first | (simp; omega) | (simp [*]; done)); done))); (refine DrG.runS e tab_ok 200 rfl (by first | trivial | (simp [in64] <;> omega) | (simp only [in64, true_and, and_true]; omega)) ?_)) | (refine DrG.callQ e rfl rfl ?_; (first | refine CallVQ.mk (c1) rfl rfl ?_ | refine CallVQ.mk (c2) rfl rfl ?_ | refine CallVQ.mk (r1) rfl rfl ?_ | refine CallVQ.mk (r0) rfl rfl ?_ | refine CallVQ.mk (f1) rfl rfl ?_ | refine CallVQ.mk (f0) rfl rfl ?_ | refine CallVQ.mk (al) rfl rfl ?_ | refine CallVQ.mk (w) rfl rfl ?_ | refine CallVQ.mk (s1) rfl rfl ?_ | refine CallVQ.mk (s0) rfl rfl ?_); (refine DrG.runS e tab_ok 200 rfl (by first | trivial | (simp [in64] <;> omega) | (simp only [in64, true_and, and_true]; omega)) ?_)) | (refine DrG.callGo e rfl rfl rfl ?_; (first | refine CallVQ.mk (c1) rfl rfl ?_ | refine CallVQ.mk (c2) rfl rfl ?_ | refine CallVQ.mk (r1) rfl rfl ?_ | refine CallVQ.mk (r0) rfl rfl ?_ | refine CallVQ.mk (f1) rfl rfl ?_ | refine CallVQ.mk (f0) rfl rfl ?_ | refine CallVQ.mk (al) rfl rfl ?_ | refine CallVQ.mk (w) rfl rfl ?_ | refine CallVQ.mk (s1) rfl rfl ?_ | refine CallVQ.mk (s0) rfl rfl ?_); (refine DrG.runS e tab_ok 200 rfl (by first | trivial | (simp [in64] <;> omega) | (simp only [in64, true_and, and_true]; omega)) ?_)) | (refine DrG.eq_agg e tab_ok rfl rfl rfl (.inl ⟨rfl, rfl⟩) ?_ 5 (by omega) rfl ?_ rfl rfl rfl rfl rfl rfl rfl ?_; (focus kernel_rfl); (focus kernel_rfl); (refine DrG.runS e tab_ok 200 rfl (by first | trivial | (simp [in64] <;> omega) | (simp only [in64, true_and, and_true]; omega)) ?_)) | (refine DrG.eq_aggGo e tab_ok rfl rfl rfl rfl (.inl ⟨rfl, rfl⟩) ?_ 5 (by omega) rfl ?_ rfl rfl rfl rfl rfl rfl rfl ?_; (focus kernel_rfl); (focus kernel_rfl); (refine DrG.runS e tab_ok 200 rfl (by first | trivial | (simp [in64] <;> omega) | (simp only [in64, true_and, and_true]; omega)) ?_)) | (refine DrG.eq_agg e tab_ok rfl rfl rfl (.inr ⟨rfl, rfl⟩) ?_ 5 (by omega) rfl ?_ rfl rfl rfl rfl rfl rfl rfl ?_; (focus kernel_rfl); (focus kernel_rfl); (refine DrG.runS e tab_ok 200 rfl (by first | trivial | (simp [in64] <;> omega) | (simp only [in64, true_and, and_true]; omega)) ?_)) | (refine DrG.eq_aggGo e tab_ok rfl rfl rfl rfl (.inr ⟨rfl, rfl⟩) ?_ 5 (by omega) rfl ?_ rfl rfl rfl rfl rfl rfl rfl ?_; (focus kernel_rfl); (focus kernel_rfl); (refine DrG.runS e tab_ok 200 rfl (by first | trivial | (simp [in64] <;> omega) | (simp only [in64, true_and, and_true]; omega)) ?_)) | (refine DrG.callGG e k0 rfl rfl rfl rfl rfl ?_; (refine DrG.runS e tab_ok 200 rfl (by first | trivial | (simp [in64] <;> omega) | (simp only [in64, true_and, and_true]; omega)) ?_)) | (refine DrG.callGG e k1 rfl rfl rfl rfl rfl ?_; (refine DrG.runS e tab_ok 200 rfl (by first | trivial | (simp [in64] <;> omega) | (simp only [in64, true_and, and_true]; omega)) ?_)))); refine DrG.finK e rfl ?_ rfl rfl rfl ?_ ?_; (focus kernel_rfl); (focus (repeat' (first | exact True.intro | (refine And.intro ?_ ?_) | rfl | assumption | exact okRow _))); dsimp only [tmS, hpS, tput, effH]; refine AWP.runL e tab_ok L5 300 rfl (by first | trivial | (simp [in64] <;> omega) | (simp only [in64, true_and, and_true]; omega)) ?_)
        )
      refine AWP.ret e tab_ok rfl ?_
      rw [hP]
      all_goals first | rfl | (simp [strip]; done)
  · refine effG_of Tryd.func5 rfl rfl rfl fun cx e hP hF hG => ?_
    refine AWP.runL e tab_ok L5 300 rfl (by first | trivial | (simp [] <;> omega) | (simp only [in64, true_and, and_true]; omega)) ?_
    refine AWP.eqT 0 (.s (strL l)) rfl (congrArg SV.s hcut) ?_
    refine AWP.eqT 1 (.i n) rfl (congrArg SV.i hn) ?_
    refine AWP.eqT 27 (.i n) rfl (congrArg SV.i hn) ?_
    refine AWP.eqT 2 (.i q) rfl (congrArg SV.i hqq) ?_
    clear hcut hn hqq
    repeat (
      first
        | (refine AWP.askT rfl ?_; (first | (refine Told.t rfl ?_) | (refine Told.f rfl ?_) | (refine Told.t ?_ ?_; (focus assumption)) | (refine Told.f ?_ ?_; (focus assumption)) | (refine Told.t ?_ ?_; (focus (first | (simp; omega) | (simp [*]; done)); done)) | (refine Told.f ?_ ?_; (focus (first | (simp; omega) | (simp [*]; done)); done))); refine AWP.runL e tab_ok L5 300 rfl (by first | trivial | (simp [in64] <;> omega) | (simp only [in64, true_and, and_true]; omega)) ?_)
        | (refine AWP.callQ e rfl rfl ?_; (first | refine CallQ.mk (c1) rfl rfl ?_ | refine CallQ.mk (r1) rfl rfl ?_ | refine CallQ.mk (r0) rfl rfl ?_ | refine CallQ.mk (f1) rfl rfl ?_ | refine CallQ.mk (f0) rfl rfl ?_ | refine CallQ.mk (al) rfl rfl ?_ | refine CallQ.mk (w) rfl rfl ?_); refine AWP.runL e tab_ok L5 300 rfl (by first | trivial | (simp [in64] <;> omega) | (simp only [in64, true_and, and_true]; omega)) ?_)
        | (refine AWP.eq_agg e tab_ok rfl rfl rfl (.inl ⟨rfl, rfl⟩) ?_ 5 (by omega) rfl ?_ rfl rfl rfl rfl rfl rfl rfl ?_; (focus kernel_rfl); (focus kernel_rfl); refine AWP.runL e tab_ok L5 300 rfl (by first | trivial | (simp [in64] <;> omega) | (simp only [in64, true_and, and_true]; omega)) ?_)
        | (refine AWP.eq_agg e tab_ok rfl rfl rfl (.inr ⟨rfl, rfl⟩) ?_ 5 (by omega) rfl ?_ rfl rfl rfl rfl rfl rfl rfl ?_; (focus kernel_rfl); (focus kernel_rfl); refine AWP.runL e tab_ok L5 300 rfl (by first | trivial | (simp [in64] <;> omega) | (simp only [in64, true_and, and_true]; omega)) ?_)
        | (refine AWP.keep L5 rfl ?_; refine AWP.drg 100 ?_; (refine DrG.runS e tab_ok 200 rfl (by first | trivial | (simp [in64] <;> omega) | (simp only [in64, true_and, and_true]; omega)) ?_); (repeat (first | (refine DrG.askT rfl ?_; (first | (refine Told.t rfl ?_) | (refine Told.f rfl ?_) | (refine Told.t ?_ ?_; (focus assumption)) | (refine Told.f ?_ ?_; (focus assumption)) | (refine Told.t ?_ ?_; (focus (first | (simp; omega) | (simp [*]; done)); done)) | (refine Told.f ?_ ?_; (focus (first | (simp; omega) | (simp [*]; done)); done))); (refine DrG.runS e tab_ok 200 rfl (by first | trivial | (simp [in64] <;> omega) | (simp only [in64, true_and, and_true]; omega)) ?_)) | (refine DrG.callQ e rfl rfl ?_; (first | refine CallVQ.mk (c1) rfl rfl ?_ | refine CallVQ.mk (r1) rfl rfl ?_ | refine CallVQ.mk (r0) rfl rfl ?_ | refine CallVQ.mk (f1) rfl rfl ?_ | refine CallVQ.mk (f0) rfl rfl ?_ | refine CallVQ.mk (al) rfl rfl ?_ | refine CallVQ.mk (w) rfl rfl ?_); (refine DrG.runS e tab_ok 200 rfl (by first | trivial | (simp [in64] <;> omega) | (simp only [in64, true_and, and_true]; omega)) ?_)) | (refine DrG.callGo e rfl rfl rfl ?_; (first | refine CallVQ.mk (c1) rfl rfl ?_ | refine CallVQ.mk (r1) rfl rfl ?_ | refine CallVQ.mk (r0) rfl rfl ?_ | refine CallVQ.mk (f1) rfl rfl ?_ | refine CallVQ.mk (f0) rfl rfl ?_ | refine CallVQ.mk (al) rfl rfl ?_ | refine CallVQ.mk (w) rfl rfl ?_); (refine DrG.runS e tab_ok 200 rfl (by first | trivial | (simp [in64] <;> omega) | (simp only [in64, true_and, and_true]; omega)) ?_)) | (refine DrG.eq_agg e tab_ok rfl rfl rfl (.inl ⟨rfl, rfl⟩) ?_ 5 (by omega) rfl ?_ rfl rfl rfl rfl rfl rfl rfl ?_; (focus kernel_rfl); (focus kernel_rfl); (refine DrG.runS e tab_ok 200 rfl (by first | trivial | (simp [in64] <;> omega) | (simp only [in64, true_and, and_true]; omega)) ?_)) | (refine DrG.eq_aggGo e tab_ok rfl rfl rfl rfl (.inl ⟨rfl, rfl⟩) ?_ 5 (by omega) rfl ?_ rfl rfl rfl rfl rfl rfl rfl ?_; (focus kernel_rfl); (focus kernel_rfl); (refine DrG.runS e tab_ok 200 rfl (by first | trivial | (simp [in64] <;> omega) | (simp only [in64, true_and, and_true]; omega)) ?_)) | (refine DrG.eq_agg e tab_ok rfl rfl rfl (.inr ⟨rfl, rfl⟩) ?_ 5 (by omega) rfl ?_ rfl rfl rfl rfl rfl rfl rfl ?_; (focus kernel_rfl); (focus kernel_rfl); (refine DrG.runS e tab_ok 200 rfl (by first | trivial | (simp [in64] <;> omega) | (simp only [in64, true_and, and_true]; omega)) ?_)) | (refine DrG.eq_aggGo e tab_ok rfl rfl rfl rfl (.inr ⟨rfl, rfl⟩) ?_ 5 (by omega) rfl ?_ rfl rfl rfl rfl rfl rfl rfl ?_; (focus kernel_rfl); (focus kernel_rfl); (refine DrG.runS e tab_ok 200 rfl (by first | trivial | (simp [in64] <;> omega) | (simp only [in64, true_and, and_true]; omega)) ?_)))); refine DrG.finK e rfl ?_ rfl rfl rfl ?_ ?_; (focus kernel_rfl); (focus (repeat' (first | exact True.intro | (refine And.intro ?_ ?_) | rfl | assumption | exact okRow _))); dsimp only [tmS, hpS, tput, effH]; refine AWP.runL e tab_ok L5 300 rfl (by first | trivial | (simp [in64] <;> omega) | (simp only [in64, true_and, and_true]; omega)) ?_)
      )
    refine AWP.ret e tab_ok rfl ?_
    rw [hP]
    all_goals first | rfl | (simp [strip]; done)
theorem pnone_args (l : List SV) (h : Args tab 9 [9, 3, 3] l) : EffG Tryd.prog 5 l (HasInt 0) (fun r _ _ => r = .b true) := by
  obtain ⟨_, _, rfl, ⟨s, rfl, _⟩, _, _, rfl, ⟨least, rfl, _⟩, _, _, rfl, ⟨quiet, rfl, _⟩, rfl⟩ := h
  rw [← strL_of s]
  generalize s.data.toList = s
  obtain ⟨n, h1, h2, hn⟩ : ∃ n : Nat, 1 ≤ n ∧ n ≤ 100 ∧ (if (100 : Int) < (if (1 : Int) > least then 1 else least) then 100 else (if (1 : Int) > least then 1 else least)) = (n : Int) := by
    refine ⟨(if (100 : Int) < (if (1 : Int) > least then 1 else least) then 100 else (if (1 : Int) > least then 1 else least)).toNat, ?_, ?_, ?_⟩ <;> (repeat' split) <;> omega
  obtain ⟨q, hq, hqq⟩ : ∃ q : Nat, q ≤ 1000 ∧ (if (1000 : Int) < (if (0 : Int) > quiet then 0 else quiet) then 1000 else (if (0 : Int) > quiet then 0 else quiet)) = (q : Int) := by
    refine ⟨(if (1000 : Int) < (if (0 : Int) > quiet then 0 else quiet) then 1000 else (if (0 : Int) > quiet then 0 else quiet)).toNat, ?_, ?_⟩ <;> (repeat' split) <;> omega
  exact pnone_ok s _ least quiet n q h1 h2 hq hn hqq (by simp; omega) (cut_str s 500)
end Go.Proofs.YtokhongbpnkinaaDoor
