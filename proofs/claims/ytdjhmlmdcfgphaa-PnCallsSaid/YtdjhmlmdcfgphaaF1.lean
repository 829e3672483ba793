import Derived.Test.YtdjhmlmdcfgphaaSyD
import Derived.Test.YtdjhmlmdcfgphaaL
import Derived.Test.YtdjhmlmdcfgphaaProg
open Go Go.Proofs Go.Sy
namespace Go.Proofs.Ytdjhmlmdcfgphaa
def z16 : List DV := [.v (.int .i64 0), .v (.int .i64 0), .v (.int .i64 0), .v (.int .i64 0), .v (.int .i64 0), .v (.int .i64 0), .v (.int .i64 0), .v (.int .i64 0), .v (.int .i64 0), .v (.int .i64 0), .v (.int .i64 0), .v (.int .i64 0), .v (.int .i64 0), .v (.int .i64 0), .v (.int .i64 0), .v (.int .i64 0)]
def b16 : List DV := [.v (.bool false), .v (.bool false), .v (.bool false), .v (.bool false), .v (.bool false), .v (.bool false), .v (.bool false), .v (.bool false), .v (.bool false), .v (.bool false), .v (.bool false), .v (.bool false), .v (.bool false), .v (.bool false), .v (.bool false), .v (.bool false)]
def pz : List DV := [.v (.int .u16 0), .v (.int .u16 0), .v (.int .i64 0), .v (.int .i64 0), .v (.int .i64 0), .v (.int .i64 0), .v (.int .i64 0), .v (.int .i64 0), .v (.int .i64 0), .v (.int .i64 0), .v (.int .i64 0), .v (.int .i64 0), .v (.int .i64 0), .v (.int .i64 0), .v (.int .i64 0), .v (.int .i64 0), .v (.int .i64 0), .v (.int .i64 0), .v (.int .i64 0)]
def tab : Tab := [
  (3, ⟨.int .i64, 1, 8, [.v (.int .i64 0)]⟩),
  (4, ⟨.bool, 1, 1, [.v (.bool false)]⟩),
  (5, ⟨.int .u8, 1, 1, [.v (.int .u8 0)]⟩),
  (9, ⟨.str, 1, 16, [.v (.string .empty)]⟩),
  (12, ⟨.int .u64, 1, 8, [.v (.int .u64 0)]⟩),
  (22, ⟨.int .u16, 1, 2, [.v (.int .u16 0)]⟩),
  (23, ⟨.slice 33, 1, 24, [.nil]⟩),
  (24, ⟨.arr 16 3, 16, 128, z16⟩),
  (26, ⟨.struct [(22, 0), (22, 1), (24, 2), (3, 18)], 19, 144, pz⟩),
  (27, ⟨.int .i64, 1, 8, [.v (.int .i64 0)]⟩),
  (30, ⟨.arr 16 4, 16, 16, b16⟩),
  (32, ⟨.struct [(3, 0), (4, 1), (22, 2), (4, 3), (3, 4)], 5, 24, [.v (.int .i64 0), .v (.bool false), .v (.int .u16 0), .v (.bool false), .v (.int .i64 0)]⟩),
  (33, ⟨.struct [(3, 0), (4, 1), (22, 2), (4, 3), (3, 4)], 5, 24, [.v (.int .i64 0), .v (.bool false), .v (.int .u16 0), .v (.bool false), .v (.int .i64 0)]⟩),
  (41, ⟨.int .u64, 1, 8, [.v (.int .u64 0)]⟩),
  (44, ⟨.slice 3, 1, 24, [.nil]⟩),
  (52, ⟨.slice 5, 1, 24, [.nil]⟩)]
theorem tab_ok : TabOk Try.prog tab := tabChk_ok (by kernel_rfl)

abbrev pnC (m o : BitVec 16) (s : Nat → Int) (l : Int) : List SV := [U16 m, U16 o, .i (s 0), .i (s 1), .i (s 2), .i (s 3), .i (s 4), .i (s 5), .i (s 6), .i (s 7), .i (s 8), .i (s 9), .i (s 10), .i (s 11), .i (s 12), .i (s 13), .i (s 14), .i (s 15), .i l]
abbrev pn (m o : BitVec 16) (s : Nat → Int) (l : Int) : SV := .agg (pnC m o s l)
abbrev pn0 : SV := pn 0#16 0#16 (fun _ => 0) 0

theorem lt16 {i : Nat} (h : i < 16) : i = 0 ∨ i = 1 ∨ i = 2 ∨ i = 3 ∨ i = 4 ∨ i = 5 ∨ i = 6 ∨ i = 7 ∨ i = 8 ∨ i = 9 ∨ i = 10 ∨ i = 11 ∨ i = 12 ∨ i = 13 ∨ i = 14 ∨ i = 15 := by omega
theorem pn_at {m o : BitVec 16} {s : Nat → Int} {l : Int} {i j : Nat} (hj : j = i + 2) (h : i < 16) : (pnC m o s l)[j]? = some (.i (s i)) := by
  subst hj
  rcases lt16 h with rfl | rfl | rfl | rfl | rfl | rfl | rfl | rfl | rfl | rfl | rfl | rfl | rfl | rfl | rfl | rfl <;> rfl
def upd1 (s : Nat → Int) (i : Nat) (v : Int) (k : Nat) : Int := if k = i then v else s k
theorem pn_set {m o : BitVec 16} {s : Nat → Int} {l v : Int} {i j : Nat} (hj : j = i + 2) (h : i < 16) : (pnC m o s l).set j (.i v) = pnC m o (upd1 s i v) l := by
  subst hj
  rcases lt16 h with rfl | rfl | rfl | rfl | rfl | rfl | rfl | rfl | rfl | rfl | rfl | rfl | rfl | rfl | rfl | rfl <;> rfl

theorem below_succ {p : Nat → Prop} {i : Nat} (h : ∀ k, k < i → p k) (hi : p i) (k : Nat) (hk : k < i + 1) : p k := by
  by_cases e : k = i
  · subst e; exact hi
  · exact h k (by omega)
theorem bit_val (n : BitVec 16) (i : Nat) : (IntKind.wrap .u16 ((BitVec.ofInt 16 (((n.toNat : Int)).fdiv (2 ^ (min ((i : Nat) : Int).toNat 16))) &&& BitVec.ofInt 16 1).toNat : Int) == 1) = n.getLsbD i := by
  rw [u16shr, ofInt_toNat, u16w, show BitVec.ofInt 16 1 = 1#16 from rfl]
  rw [show ((1 : Int)) = (((1#16).toNat : Nat) : Int) from rfl]
  rw [Bool.eq_iff_iff, beq_iff_eq, bv_inj]
  constructor
  · intro h
    have := congrArg (·.getLsbD 0) h
    simpa using this
  · intro h
    apply BitVec.eq_of_getLsbD_eq
    intro j hj
    simp only [BitVec.getLsbD_and, BitVec.getLsbD_ushiftRight, BitVec.getLsbD_one]
    by_cases e : j = 0
    · subst e; simp [h]
    · simp [e]

set_option maxRecDepth 100000 in
theorem bit_eff (n : BitVec 16) (i : Nat) : Eff Try.prog 23 [U16 n, .i i] [] 0 (fun r _ _ => r = .b (n.getLsbD i)) := by
  refine eff_of Try.func23 rfl rfl rfl fun cx e hP => ?_
  refine AWP.runL e tab_ok L23 300 rfl (by first | trivial | (simp [] <;> omega)) ?_
  refine AWP.ret e tab_ok rfl ?_
  rw [hP]
  exact congrArg SV.b (bit_val n i)

def rightB (m o : BitVec 16) (s : Nat → Int) (l : Int) : Bool := decide (1 ≤ l ∧ l ≤ 1000000) && (o &&& ~~~m == 0#16) && (List.range 16).all fun k => decide (0 ≤ s k ∧ s k ≤ l)
abbrev RightP (m o : BitVec 16) (s : Nat → Int) (l : Int) : Prop := (1 ≤ l ∧ l ≤ 1000000) ∧ o &&& ~~~m = 0#16 ∧ ∀ k, k < 16 → 0 ≤ s k ∧ s k ≤ l
theorem rightB_iff {m o : BitVec 16} {s : Nat → Int} {l : Int} : rightB m o s l = true ↔ RightP m o s l := by
  simp only [rightB, Bool.and_eq_true, decide_eq_true_eq, beq_iff_eq, List.all_eq_true, List.mem_range, and_assoc]
theorem rightB_not {m o : BitVec 16} {s : Nat → Int} {l : Int} (h : ¬ RightP m o s l) : SV.b false = SV.b (rightB m o s l) := by
  refine congrArg SV.b ?_
  rw [eq_comm, Bool.eq_false_iff]
  exact fun g => h (rightB_iff.1 g)
theorem rightB_yes {m o : BitVec 16} {s : Nat → Int} {l : Int} (h : RightP m o s l) : SV.b true = SV.b (rightB m o s l) := congrArg SV.b (rightB_iff.2 h).symm
theorem andNot_val (m o : BitVec 16) : (IntKind.wrap .u16 ((BitVec.ofInt 16 (o.toNat : Int) &&& ~~~ BitVec.ofInt 16 (m.toNat : Int)).toNat : Int) != 0) = !(o &&& ~~~m == 0#16) := by
  rw [ofInt_toNat, ofInt_toNat, u16w, bne]
  refine congrArg _ ?_
  rw [Bool.eq_iff_iff, beq_iff_eq, beq_iff_eq, bv_eq0]

set_option maxRecDepth 100000 in
theorem right_eff (m o : BitVec 16) (s : Nat → Int) (l : Int) : Eff Try.prog 14 [pn m o s l] [] 0 (fun r _ _ => r = .b (rightB m o s l)) := by
  refine eff_of Try.func14 rfl rfl rfl fun cx e hP => ?_
  by_cases h1 : 1 ≤ l
  rotate_left
  · refine AWP.runL e tab_ok L14 300 rfl (by first | trivial | (simp [in64] <;> omega)) ?_
    repeat (
      first
        | (refine AWP.askT rfl ?_; (first | (refine Told.t rfl ?_) | (refine Told.f rfl ?_) | (refine Told.t ?_ ?_; (focus (first | assumption | (simp; omega) | (simp [*]; done)); done)) | (refine Told.f ?_ ?_; (focus (first | assumption | (simp; omega) | (simp [*]; done)); done))); refine AWP.runL e tab_ok L14 300 rfl (by first | trivial | (simp [in64] <;> omega)) ?_)
        | (refine AWP.eq_agg e tab_ok rfl rfl rfl (.inl ⟨rfl, rfl⟩) ?_ 5 (by omega) rfl ?_ rfl rfl rfl rfl rfl rfl rfl ?_; (focus kernel_rfl); (focus kernel_rfl); refine AWP.runL e tab_ok L14 300 rfl (by first | trivial | (simp [in64] <;> omega)) ?_)
        | (refine AWP.eq_agg e tab_ok rfl rfl rfl (.inr ⟨rfl, rfl⟩) ?_ 5 (by omega) rfl ?_ rfl rfl rfl rfl rfl rfl rfl ?_; (focus kernel_rfl); (focus kernel_rfl); refine AWP.runL e tab_ok L14 300 rfl (by first | trivial | (simp [in64] <;> omega)) ?_)
      )
    refine AWP.ret e tab_ok rfl ?_
    rw [hP]
    exact rightB_not fun h => by omega
  by_cases h2 : l ≤ 1000000
  rotate_left
  · refine AWP.runL e tab_ok L14 300 rfl (by first | trivial | (simp [in64] <;> omega)) ?_
    repeat (
      first
        | (refine AWP.askT rfl ?_; (first | (refine Told.t rfl ?_) | (refine Told.f rfl ?_) | (refine Told.t ?_ ?_; (focus (first | assumption | (simp; omega) | (simp [*]; done)); done)) | (refine Told.f ?_ ?_; (focus (first | assumption | (simp; omega) | (simp [*]; done)); done))); refine AWP.runL e tab_ok L14 300 rfl (by first | trivial | (simp [in64] <;> omega)) ?_)
        | (refine AWP.eq_agg e tab_ok rfl rfl rfl (.inl ⟨rfl, rfl⟩) ?_ 5 (by omega) rfl ?_ rfl rfl rfl rfl rfl rfl rfl ?_; (focus kernel_rfl); (focus kernel_rfl); refine AWP.runL e tab_ok L14 300 rfl (by first | trivial | (simp [in64] <;> omega)) ?_)
        | (refine AWP.eq_agg e tab_ok rfl rfl rfl (.inr ⟨rfl, rfl⟩) ?_ 5 (by omega) rfl ?_ rfl rfl rfl rfl rfl rfl rfl ?_; (focus kernel_rfl); (focus kernel_rfl); refine AWP.runL e tab_ok L14 300 rfl (by first | trivial | (simp [in64] <;> omega)) ?_)
      )
    refine AWP.ret e tab_ok rfl ?_
    rw [hP]
    exact rightB_not fun h => by omega
  refine AWP.runL e tab_ok L14 300 rfl (by first | trivial | (simp [in64] <;> omega)) ?_
  repeat (
    first
      | (refine AWP.askT rfl ?_; (first | (refine Told.t rfl ?_) | (refine Told.f rfl ?_) | (refine Told.t ?_ ?_; (focus (first | assumption | (simp; omega) | (simp [*]; done)); done)) | (refine Told.f ?_ ?_; (focus (first | assumption | (simp; omega) | (simp [*]; done)); done))); refine AWP.runL e tab_ok L14 300 rfl (by first | trivial | (simp [in64] <;> omega)) ?_)
      | (refine AWP.eq_agg e tab_ok rfl rfl rfl (.inl ⟨rfl, rfl⟩) ?_ 5 (by omega) rfl ?_ rfl rfl rfl rfl rfl rfl rfl ?_; (focus kernel_rfl); (focus kernel_rfl); refine AWP.runL e tab_ok L14 300 rfl (by first | trivial | (simp [in64] <;> omega)) ?_)
      | (refine AWP.eq_agg e tab_ok rfl rfl rfl (.inr ⟨rfl, rfl⟩) ?_ 5 (by omega) rfl ?_ rfl rfl rfl rfl rfl rfl rfl ?_; (focus kernel_rfl); (focus kernel_rfl); refine AWP.runL e tab_ok L14 300 rfl (by first | trivial | (simp [in64] <;> omega)) ?_)
    )
  refine AWP.eqT 19 (.b (!(o &&& ~~~m == 0#16))) rfl (congrArg SV.b (andNot_val m o)) ?_
  by_cases h3 : o &&& ~~~m = 0#16
  rotate_left
  · refine AWP.cond rfl true (by simpa using h3) ?_
    refine AWP.runL e tab_ok L14 300 rfl (by first | trivial | (simp [in64] <;> omega)) ?_
    refine AWP.ret e tab_ok rfl ?_
    rw [hP]
    exact rightB_not fun h => h3 h.2.1
  refine AWP.cond rfl false (by simpa using h3) ?_
  refine AWP.runL e tab_ok L14 300 rfl (by first | trivial | (simp [in64] <;> omega)) ?_
  refine AWP.loop (ι := Nat) (fun i => ⟨[(20, .i i), (1, .ptr 0 0)], [(0, .box (pnC m o s l))], 1⟩) (fun i => i ≤ 16 ∧ ∀ k, k < i → 0 ≤ s k ∧ s k ≤ l) (fun i => 16 - i) 0 ⟨by omega, by omega⟩ ?_ ?_
  · intro g
    refine AWP.less e ?_ ?_ ?_ ?_ ?_ (g) <;> (repeat' (first | exact True.intro | (refine And.intro ?_ ?_) | rfl | assumption))
  rintro i Φ ⟨hI, hs⟩ next
  refine AWP.runL e tab_ok L14 300 rfl (by first | trivial | (simp [in64] <;> omega)) ?_
  refine AWP.cond2 rfl (fun hlt => ?_) (fun hlt => ?_)
  · have hlt : i < 16 := by simp at hlt; omega
    by_cases g1 : 0 ≤ s i
    · by_cases g2 : s i ≤ l
      · refine AWP.runL e tab_ok L14 300 rfl (by first | trivial | (simp [in64] <;> omega)) ?_
        repeat (
          first
            | (refine AWP.askT rfl ?_; (first | (refine Told.t rfl ?_) | (refine Told.f rfl ?_) | (refine Told.t ?_ ?_; (focus (first | assumption | (simp; omega) | (simp [*]; done)); done)) | (refine Told.f ?_ ?_; (focus (first | assumption | (simp; omega) | (simp [*]; done)); done))); refine AWP.runL e tab_ok L14 300 rfl (by first | trivial | (simp [in64] <;> omega)) ?_)
            | (refine AWP.idx_pel e tab_ok rfl rfl rfl rfl rfl _ rfl ?_ ?_; (focus (first | assumption | omega | decide)); refine AWP.runL e tab_ok L14 300 rfl (by first | trivial | (simp [in64] <;> omega)) ?_)
            | (refine AWP.load_pel e tab_ok _ rfl rfl rfl rfl rfl (pn_at (by simp) hlt) ?_; refine AWP.runL e tab_ok L14 300 rfl (by first | trivial | (simp [in64] <;> omega)) ?_)
            | (refine AWP.eq_agg e tab_ok rfl rfl rfl (.inl ⟨rfl, rfl⟩) ?_ 5 (by omega) rfl ?_ rfl rfl rfl rfl rfl rfl rfl ?_; (focus kernel_rfl); (focus kernel_rfl); refine AWP.runL e tab_ok L14 300 rfl (by first | trivial | (simp [in64] <;> omega)) ?_)
            | (refine AWP.eq_agg e tab_ok rfl rfl rfl (.inr ⟨rfl, rfl⟩) ?_ 5 (by omega) rfl ?_ rfl rfl rfl rfl rfl rfl rfl ?_; (focus kernel_rfl); (focus kernel_rfl); refine AWP.runL e tab_ok L14 300 rfl (by first | trivial | (simp [in64] <;> omega)) ?_)
            | (refine AWP.keep L14 rfl ?_; refine AWP.drg 100 ?_; (refine DrG.runS e tab_ok 200 rfl (by first | trivial | (simp [in64] <;> omega)) ?_); (repeat (first | (refine DrG.askT rfl ?_; (first | (refine Told.t rfl ?_) | (refine Told.f rfl ?_) | (refine Told.t ?_ ?_; (focus (first | assumption | (simp; omega) | (simp [*]; done)); done)) | (refine Told.f ?_ ?_; (focus (first | assumption | (simp; omega) | (simp [*]; done)); done))); (refine DrG.runS e tab_ok 200 rfl (by first | trivial | (simp [in64] <;> omega)) ?_)) | (refine DrG.idx_pel e tab_ok rfl rfl rfl rfl rfl _ rfl ?_ rfl ?_; (focus (first | assumption | omega | decide)); (refine DrG.runS e tab_ok 200 rfl (by first | trivial | (simp [in64] <;> omega)) ?_)) | (refine DrG.idx_pelGo e tab_ok rfl rfl rfl rfl rfl rfl _ rfl ?_ rfl ?_; (focus (first | assumption | omega | decide)); (refine DrG.runS e tab_ok 200 rfl (by first | trivial | (simp [in64] <;> omega)) ?_)) | (refine DrG.load_pel e tab_ok _ rfl rfl rfl rfl rfl (pn_at (by simp) hlt) rfl ?_; (refine DrG.runS e tab_ok 200 rfl (by first | trivial | (simp [in64] <;> omega)) ?_)) | (refine DrG.load_pelGo e tab_ok _ rfl rfl rfl rfl rfl rfl (pn_at (by simp) hlt) rfl ?_; (refine DrG.runS e tab_ok 200 rfl (by first | trivial | (simp [in64] <;> omega)) ?_)) | (refine DrG.eq_agg e tab_ok rfl rfl rfl (.inl ⟨rfl, rfl⟩) ?_ 5 (by omega) rfl ?_ rfl rfl rfl rfl rfl rfl rfl ?_; (focus kernel_rfl); (focus kernel_rfl); (refine DrG.runS e tab_ok 200 rfl (by first | trivial | (simp [in64] <;> omega)) ?_)) | (refine DrG.eq_aggGo e tab_ok rfl rfl rfl rfl (.inl ⟨rfl, rfl⟩) ?_ 5 (by omega) rfl ?_ rfl rfl rfl rfl rfl rfl rfl ?_; (focus kernel_rfl); (focus kernel_rfl); (refine DrG.runS e tab_ok 200 rfl (by first | trivial | (simp [in64] <;> omega)) ?_)) | (refine DrG.eq_agg e tab_ok rfl rfl rfl (.inr ⟨rfl, rfl⟩) ?_ 5 (by omega) rfl ?_ rfl rfl rfl rfl rfl rfl rfl ?_; (focus kernel_rfl); (focus kernel_rfl); (refine DrG.runS e tab_ok 200 rfl (by first | trivial | (simp [in64] <;> omega)) ?_)) | (refine DrG.eq_aggGo e tab_ok rfl rfl rfl rfl (.inr ⟨rfl, rfl⟩) ?_ 5 (by omega) rfl ?_ rfl rfl rfl rfl rfl rfl rfl ?_; (focus kernel_rfl); (focus kernel_rfl); (refine DrG.runS e tab_ok 200 rfl (by first | trivial | (simp [in64] <;> omega)) ?_)))); refine DrG.finK e rfl ?_ rfl rfl rfl ?_ ?_; (focus kernel_rfl); (focus (repeat' (first | exact True.intro | (refine And.intro ?_ ?_) | rfl | assumption | exact okRow _))); dsimp only [tmS, hpS, tput, effH]; refine AWP.runL e tab_ok L14 300 rfl (by first | trivial | (simp [in64] <;> omega)) ?_)
          )
        refine AWP.less e ?_ ?_ ?_ ?_ ?_ (next (i + 1) ⟨by omega, fun k hk => below_succ hs ⟨g1, g2⟩ k hk⟩ (by omega)) <;> (repeat' (first | exact True.intro | (refine And.intro ?_ ?_) | rfl | assumption))
      · refine AWP.runL e tab_ok L14 300 rfl (by first | trivial | (simp [in64] <;> omega)) ?_
        repeat (
          first
            | (refine AWP.askT rfl ?_; (first | (refine Told.t rfl ?_) | (refine Told.f rfl ?_) | (refine Told.t ?_ ?_; (focus (first | assumption | (simp; omega) | (simp [*]; done)); done)) | (refine Told.f ?_ ?_; (focus (first | assumption | (simp; omega) | (simp [*]; done)); done))); refine AWP.runL e tab_ok L14 300 rfl (by first | trivial | (simp [in64] <;> omega)) ?_)
            | (refine AWP.idx_pel e tab_ok rfl rfl rfl rfl rfl _ rfl ?_ ?_; (focus (first | assumption | omega | decide)); refine AWP.runL e tab_ok L14 300 rfl (by first | trivial | (simp [in64] <;> omega)) ?_)
            | (refine AWP.load_pel e tab_ok _ rfl rfl rfl rfl rfl (pn_at (by simp) hlt) ?_; refine AWP.runL e tab_ok L14 300 rfl (by first | trivial | (simp [in64] <;> omega)) ?_)
            | (refine AWP.eq_agg e tab_ok rfl rfl rfl (.inl ⟨rfl, rfl⟩) ?_ 5 (by omega) rfl ?_ rfl rfl rfl rfl rfl rfl rfl ?_; (focus kernel_rfl); (focus kernel_rfl); refine AWP.runL e tab_ok L14 300 rfl (by first | trivial | (simp [in64] <;> omega)) ?_)
            | (refine AWP.eq_agg e tab_ok rfl rfl rfl (.inr ⟨rfl, rfl⟩) ?_ 5 (by omega) rfl ?_ rfl rfl rfl rfl rfl rfl rfl ?_; (focus kernel_rfl); (focus kernel_rfl); refine AWP.runL e tab_ok L14 300 rfl (by first | trivial | (simp [in64] <;> omega)) ?_)
            | (refine AWP.keep L14 rfl ?_; refine AWP.drg 100 ?_; (refine DrG.runS e tab_ok 200 rfl (by first | trivial | (simp [in64] <;> omega)) ?_); (repeat (first | (refine DrG.askT rfl ?_; (first | (refine Told.t rfl ?_) | (refine Told.f rfl ?_) | (refine Told.t ?_ ?_; (focus (first | assumption | (simp; omega) | (simp [*]; done)); done)) | (refine Told.f ?_ ?_; (focus (first | assumption | (simp; omega) | (simp [*]; done)); done))); (refine DrG.runS e tab_ok 200 rfl (by first | trivial | (simp [in64] <;> omega)) ?_)) | (refine DrG.idx_pel e tab_ok rfl rfl rfl rfl rfl _ rfl ?_ rfl ?_; (focus (first | assumption | omega | decide)); (refine DrG.runS e tab_ok 200 rfl (by first | trivial | (simp [in64] <;> omega)) ?_)) | (refine DrG.idx_pelGo e tab_ok rfl rfl rfl rfl rfl rfl _ rfl ?_ rfl ?_; (focus (first | assumption | omega | decide)); (refine DrG.runS e tab_ok 200 rfl (by first | trivial | (simp [in64] <;> omega)) ?_)) | (refine DrG.load_pel e tab_ok _ rfl rfl rfl rfl rfl (pn_at (by simp) hlt) rfl ?_; (refine DrG.runS e tab_ok 200 rfl (by first | trivial | (simp [in64] <;> omega)) ?_)) | (refine DrG.load_pelGo e tab_ok _ rfl rfl rfl rfl rfl rfl (pn_at (by simp) hlt) rfl ?_; (refine DrG.runS e tab_ok 200 rfl (by first | trivial | (simp [in64] <;> omega)) ?_)) | (refine DrG.eq_agg e tab_ok rfl rfl rfl (.inl ⟨rfl, rfl⟩) ?_ 5 (by omega) rfl ?_ rfl rfl rfl rfl rfl rfl rfl ?_; (focus kernel_rfl); (focus kernel_rfl); (refine DrG.runS e tab_ok 200 rfl (by first | trivial | (simp [in64] <;> omega)) ?_)) | (refine DrG.eq_aggGo e tab_ok rfl rfl rfl rfl (.inl ⟨rfl, rfl⟩) ?_ 5 (by omega) rfl ?_ rfl rfl rfl rfl rfl rfl rfl ?_; (focus kernel_rfl); (focus kernel_rfl); (refine DrG.runS e tab_ok 200 rfl (by first | trivial | (simp [in64] <;> omega)) ?_)) | (refine DrG.eq_agg e tab_ok rfl rfl rfl (.inr ⟨rfl, rfl⟩) ?_ 5 (by omega) rfl ?_ rfl rfl rfl rfl rfl rfl rfl ?_; (focus kernel_rfl); (focus kernel_rfl); (refine DrG.runS e tab_ok 200 rfl (by first | trivial | (simp [in64] <;> omega)) ?_)) | (refine DrG.eq_aggGo e tab_ok rfl rfl rfl rfl (.inr ⟨rfl, rfl⟩) ?_ 5 (by omega) rfl ?_ rfl rfl rfl rfl rfl rfl rfl ?_; (focus kernel_rfl); (focus kernel_rfl); (refine DrG.runS e tab_ok 200 rfl (by first | trivial | (simp [in64] <;> omega)) ?_)))); refine DrG.finK e rfl ?_ rfl rfl rfl ?_ ?_; (focus kernel_rfl); (focus (repeat' (first | exact True.intro | (refine And.intro ?_ ?_) | rfl | assumption | exact okRow _))); dsimp only [tmS, hpS, tput, effH]; refine AWP.runL e tab_ok L14 300 rfl (by first | trivial | (simp [in64] <;> omega)) ?_)
          )
        refine AWP.ret e tab_ok rfl ?_
        rw [hP]
        exact rightB_not fun h => g2 (h.2.2 i hlt).2
    · refine AWP.runL e tab_ok L14 300 rfl (by first | trivial | (simp [in64] <;> omega)) ?_
      repeat (
        first
          | (refine AWP.askT rfl ?_; (first | (refine Told.t rfl ?_) | (refine Told.f rfl ?_) | (refine Told.t ?_ ?_; (focus (first | assumption | (simp; omega) | (simp [*]; done)); done)) | (refine Told.f ?_ ?_; (focus (first | assumption | (simp; omega) | (simp [*]; done)); done))); refine AWP.runL e tab_ok L14 300 rfl (by first | trivial | (simp [in64] <;> omega)) ?_)
          | (refine AWP.idx_pel e tab_ok rfl rfl rfl rfl rfl _ rfl ?_ ?_; (focus (first | assumption | omega | decide)); refine AWP.runL e tab_ok L14 300 rfl (by first | trivial | (simp [in64] <;> omega)) ?_)
          | (refine AWP.load_pel e tab_ok _ rfl rfl rfl rfl rfl (pn_at (by simp) hlt) ?_; refine AWP.runL e tab_ok L14 300 rfl (by first | trivial | (simp [in64] <;> omega)) ?_)
          | (refine AWP.eq_agg e tab_ok rfl rfl rfl (.inl ⟨rfl, rfl⟩) ?_ 5 (by omega) rfl ?_ rfl rfl rfl rfl rfl rfl rfl ?_; (focus kernel_rfl); (focus kernel_rfl); refine AWP.runL e tab_ok L14 300 rfl (by first | trivial | (simp [in64] <;> omega)) ?_)
          | (refine AWP.eq_agg e tab_ok rfl rfl rfl (.inr ⟨rfl, rfl⟩) ?_ 5 (by omega) rfl ?_ rfl rfl rfl rfl rfl rfl rfl ?_; (focus kernel_rfl); (focus kernel_rfl); refine AWP.runL e tab_ok L14 300 rfl (by first | trivial | (simp [in64] <;> omega)) ?_)
          | (refine AWP.keep L14 rfl ?_; refine AWP.drg 100 ?_; (refine DrG.runS e tab_ok 200 rfl (by first | trivial | (simp [in64] <;> omega)) ?_); (repeat (first | (refine DrG.askT rfl ?_; (first | (refine Told.t rfl ?_) | (refine Told.f rfl ?_) | (refine Told.t ?_ ?_; (focus (first | assumption | (simp; omega) | (simp [*]; done)); done)) | (refine Told.f ?_ ?_; (focus (first | assumption | (simp; omega) | (simp [*]; done)); done))); (refine DrG.runS e tab_ok 200 rfl (by first | trivial | (simp [in64] <;> omega)) ?_)) | (refine DrG.idx_pel e tab_ok rfl rfl rfl rfl rfl _ rfl ?_ rfl ?_; (focus (first | assumption | omega | decide)); (refine DrG.runS e tab_ok 200 rfl (by first | trivial | (simp [in64] <;> omega)) ?_)) | (refine DrG.idx_pelGo e tab_ok rfl rfl rfl rfl rfl rfl _ rfl ?_ rfl ?_; (focus (first | assumption | omega | decide)); (refine DrG.runS e tab_ok 200 rfl (by first | trivial | (simp [in64] <;> omega)) ?_)) | (refine DrG.load_pel e tab_ok _ rfl rfl rfl rfl rfl (pn_at (by simp) hlt) rfl ?_; (refine DrG.runS e tab_ok 200 rfl (by first | trivial | (simp [in64] <;> omega)) ?_)) | (refine DrG.load_pelGo e tab_ok _ rfl rfl rfl rfl rfl rfl (pn_at (by simp) hlt) rfl ?_; (refine DrG.runS e tab_ok 200 rfl (by first | trivial | (simp [in64] <;> omega)) ?_)) | (refine DrG.eq_agg e tab_ok rfl rfl rfl (.inl ⟨rfl, rfl⟩) ?_ 5 (by omega) rfl ?_ rfl rfl rfl rfl rfl rfl rfl ?_; (focus kernel_rfl); (focus kernel_rfl); (refine DrG.runS e tab_ok 200 rfl (by first | trivial | (simp [in64] <;> omega)) ?_)) | (refine DrG.eq_aggGo e tab_ok rfl rfl rfl rfl (.inl ⟨rfl, rfl⟩) ?_ 5 (by omega) rfl ?_ rfl rfl rfl rfl rfl rfl rfl ?_; (focus kernel_rfl); (focus kernel_rfl); (refine DrG.runS e tab_ok 200 rfl (by first | trivial | (simp [in64] <;> omega)) ?_)) | (refine DrG.eq_agg e tab_ok rfl rfl rfl (.inr ⟨rfl, rfl⟩) ?_ 5 (by omega) rfl ?_ rfl rfl rfl rfl rfl rfl rfl ?_; (focus kernel_rfl); (focus kernel_rfl); (refine DrG.runS e tab_ok 200 rfl (by first | trivial | (simp [in64] <;> omega)) ?_)) | (refine DrG.eq_aggGo e tab_ok rfl rfl rfl rfl (.inr ⟨rfl, rfl⟩) ?_ 5 (by omega) rfl ?_ rfl rfl rfl rfl rfl rfl rfl ?_; (focus kernel_rfl); (focus kernel_rfl); (refine DrG.runS e tab_ok 200 rfl (by first | trivial | (simp [in64] <;> omega)) ?_)))); refine DrG.finK e rfl ?_ rfl rfl rfl ?_ ?_; (focus kernel_rfl); (focus (repeat' (first | exact True.intro | (refine And.intro ?_ ?_) | rfl | assumption | exact okRow _))); dsimp only [tmS, hpS, tput, effH]; refine AWP.runL e tab_ok L14 300 rfl (by first | trivial | (simp [in64] <;> omega)) ?_)
        )
      refine AWP.ret e tab_ok rfl ?_
      rw [hP]
      exact rightB_not fun h => g1 (h.2.2 i hlt).1
  · have hge : i = 16 := by simp at hlt; omega
    subst hge
    refine AWP.runL e tab_ok L14 300 rfl (by first | trivial | (simp [in64] <;> omega)) ?_
    refine AWP.ret e tab_ok rfl ?_
    rw [hP]
    exact rightB_yes ⟨⟨h1, h2⟩, h3, hs⟩
end Go.Proofs.Ytdjhmlmdcfgphaa
