/-
  A bus of controllers that are right is right. Condition: what the theorems state ahead.
-/
import Derived.Test.YthdcegeampcalaaGreatDoorC12
import Derived.Test.YthdcegeampcalaaGreatDoorC13
open Go Go.Proofs Go.Sy Go.Stuff
namespace Go.Proofs.YthdcegeampcalaaGreatDoor
/-- A controller's cells, whatever they are. -/
structure Ct where
  tec : Int
  rece : Int
  off : Bool
  rest : Int
  st : Int
  n : Int
  was : Bool
  hard : Bool
  has : Bool
  fid : Int
  ext : Bool
  rem : Bool
  dlc : Int
  data : ByteArray
  sends : Bool
  out : ByteArray
  at_ : Int
  sl : Int
  sn : Int
  got : ByteArray
  fin : Bool
  tl : Int
  good : Bool
abbrev ctD (c : Ct) : List DV := [.v (.int .i64 c.tec), .v (.int .i64 c.rece), .v (.bool c.off), .v (.int .i64 c.rest), .v (.int .i64 c.st), .v (.int .i64 c.n), .v (.bool c.was), .v (.bool c.hard), .v (.bool c.has), .v (.int .u32 c.fid), .v (.bool c.ext), .v (.bool c.rem), .v (.int .i64 c.dlc), .v (.string c.data), .v (.bool c.sends), .v (.string c.out), .v (.int .i64 c.at_), .v (.int .u8 c.sl), .v (.int .i64 c.sn), .v (.string c.got), .v (.bool c.fin), .v (.int .i64 c.tl), .v (.bool c.good)]
abbrev ctV (c : Ct) : List SV := [.d (.v (.int .i64 c.tec)), .d (.v (.int .i64 c.rece)), .d (.v (.bool c.off)), .d (.v (.int .i64 c.rest)), .d (.v (.int .i64 c.st)), .d (.v (.int .i64 c.n)), .d (.v (.bool c.was)), .d (.v (.bool c.hard)), .d (.v (.bool c.has)), .d (.v (.int .u32 c.fid)), .d (.v (.bool c.ext)), .d (.v (.bool c.rem)), .d (.v (.int .i64 c.dlc)), .d (.v (.string c.data)), .d (.v (.bool c.sends)), .d (.v (.string c.out)), .d (.v (.int .i64 c.at_)), .d (.v (.int .u8 c.sl)), .d (.v (.int .i64 c.sn)), .d (.v (.string c.got)), .d (.v (.bool c.fin)), .d (.v (.int .i64 c.tl)), .d (.v (.bool c.good))]
abbrev busV (cs : List Ct) (now : Int) : SV := .agg [.d (.sl 23 (cs.map ctD)), .i now]
abbrev fn28 : DV := .v (.func (.func 28) #[] #[])
namespace T2
/-- The types' table, with the closures' type. -/
def tab : Tab := (72, ⟨.oth, 1, 8, [.v .nilFunc]⟩) :: Go.Proofs.YthdcegeampcalaaGreatDoor.tab
theorem tab_ok : TabOk Tryz.prog tab := tabChk_ok (by kernel_rfl)
end T2
theorem ct_at {cs : List Ct} {i : Nat} (h : i < cs.length) : (cs.map ctD)[i]? = some (ctD cs[i]) := by simp [h]
namespace T2
set_option maxRecDepth 100000 in
set_option maxHeartbeats 2000000 in
theorem no_eff (c : Ct) (c1 : Eff Tryz.prog 28 [.agg (ctV c)] [] 0 (fun r _ _ => r = .b true)) : Eff Tryz.prog 48 [.agg (ctV c), .ip [fn28]] [] 0 (fun r _ _ => r = .b false) := by
  refine eff_of Tryz.func48 rfl rfl rfl fun cx e hP => ?_
  refine AWP.runL e tab_ok L48 300 rfl (by trivial ) ?_
  repeat (

      (refine AWP.callQ e rfl rfl ?_; (first | refine CallQ.mk (c1) rfl rfl ?_); refine AWP.runL e tab_ok L48 300 rfl (by trivial ) ?_)

    )
  refine AWP.ret e tab_ok rfl ?_
  rw [hP]
  all_goals rfl
set_option maxRecDepth 100000 in
set_option maxHeartbeats 2000000 in
theorem index_eff (cs : List Ct) (hl : cs.length ≤ 100) (h : ∀ c ∈ cs, Eff Tryz.prog 28 [.agg (ctV c)] [] 0 (fun r _ _ => r = .b true)) : Eff Tryz.prog 65 [.d (.sl 23 (cs.map ctD)), .fn (.func 48) [] [.ip [fn28]]] [] 0 (fun r _ _ => r = .i (-1)) := by
  have hz : (cs.map ctD).length = cs.length := List.length_map _
  refine eff_of Tryz.func65 rfl rfl rfl fun cx e hP => ?_
  refine AWP.runL e tab_ok L65 300 rfl (by trivial ) ?_
  refine AWP.loop (ι := Nat) (fun i => ⟨[(8, .i i), (7, .i cs.length), (1, .fn (.func 48) [] [.ip [fn28]]), (0, .d (.sl 23 (cs.map ctD)))], [], 0⟩) (fun i => i ≤ cs.length) (fun i => cs.length - i) 0 (Nat.zero_le _) ?_ ?_
  · intro g
    refine AWP.less e ?_ ?_ ?_ ?_ ?_ (g) <;> (repeat' (first | exact True.intro | (refine And.intro ?_ ?_) | rfl))
    exact congrArg (fun z : Nat => some (SV.i z)) hz
  intro i Φ hi next
  have hi : i ≤ cs.length := hi
  refine AWP.runL e tab_ok L65 300 rfl (by trivial ) ?_
  refine AWP.cond2 rfl (fun hlt => ?_) (fun hlt => ?_)
  · have hlt : i < cs.length := by have := of_decide_eq_true hlt; omega
    have hel := ct_at hlt
    have c1 := no_eff cs[i] (h _ (List.getElem_mem hlt))
    have nx := next (i + 1) hlt (by show cs.length - (i + 1) < cs.length - i; omega)
    clear next
    generalize cs[i] = c at *
    refine AWP.runL e tab_ok L65 300 rfl (by trivial ) ?_
    refine AWP.idx e tab_ok rfl rfl rfl rfl i rfl hel ?_
    refine AWP.runL e tab_ok L65 300 rfl (by trivial ) ?_
    repeat (
      first
        | (refine AWP.askT rfl ?_; ( (refine Told.f rfl ?_) ); refine AWP.runL e tab_ok L65 300 rfl (by  (simp [in64] <;> omega)) ?_)
        | (refine AWP.callQ e rfl rfl ?_; (first | refine CallQ.mk (c1) rfl rfl ?_); refine AWP.runL e tab_ok L65 300 rfl (by trivial ) ?_)

      )
    refine AWP.less e ?_ ?_ ?_ ?_ ?_ (nx) <;> (repeat' (first | exact True.intro | (refine And.intro ?_ ?_) | rfl))
  · refine AWP.runL e tab_ok L65 300 rfl (by trivial ) ?_
    refine AWP.ret e tab_ok rfl ?_
    rw [hP]
    all_goals rfl
set_option maxRecDepth 100000 in
set_option maxHeartbeats 2000000 in
theorem all_eff (cs : List Ct) (hl : cs.length ≤ 100) (h : ∀ c ∈ cs, Eff Tryz.prog 28 [.agg (ctV c)] [] 0 (fun r _ _ => r = .b true)) : Eff Tryz.prog 27 [.d (.sl 23 (cs.map ctD)), .fn (.func 28) [] []] [] 0 (fun r _ _ => r = .b true) := by
  have c1 := index_eff cs hl h
  have c2 : Eff Tryz.prog 47 [.d (.sl 23 (cs.map ctD)), .fn (.func 48) [] [.ip [fn28]]] [] 0 (fun r _ _ => r = .b false) := by
    refine eff_of Tryz.func47 rfl rfl rfl fun cx e hP => ?_
    refine AWP.runL e tab_ok L47 300 rfl (by trivial ) ?_
    repeat (

        (refine AWP.callQ e rfl rfl ?_; (first | refine CallQ.mk (c1) rfl rfl ?_); refine AWP.runL e tab_ok L47 300 rfl (by trivial ) ?_)

      )
    refine AWP.ret e tab_ok rfl ?_
    rw [hP]
    all_goals rfl
  refine eff_of Tryz.func27 rfl rfl rfl fun cx e hP => ?_
  refine AWP.runL e tab_ok L27 300 rfl (by trivial ) ?_
  refine AWP.freezeB (id := 0) rfl rfl rfl rfl ?_
  repeat (

      (refine AWP.callQ e rfl rfl ?_; (first | refine CallQ.mk (c2) rfl rfl ?_); refine AWP.runL e tab_ok L27 300 rfl (by trivial ) ?_)

    )
  refine AWP.ret e tab_ok rfl ?_
  rw [hP]
  all_goals rfl
end T2
set_option maxRecDepth 100000 in
set_option maxHeartbeats 2000000 in
theorem bright_eff (cs : List Ct) (now : Int) (hl : 1 ≤ cs.length) (hl4 : cs.length ≤ 4) (h0 : 0 ≤ now) (h1 : now ≤ 100000) (h : ∀ c ∈ cs, Eff Tryz.prog 28 [.agg (ctV c)] [] 0 (fun r _ _ => r = .b true)) : Eff Tryz.prog 14 [busV cs now] [] 0 (fun r _ _ => r = .b true) := by
  have c1 := T2.all_eff cs (by omega) h
  have hz : (cs.map ctD).length = cs.length := List.length_map _
  have g1 : decide (((cs.map ctD).length : Int) ≥ 1) = true := by rw [hz]; simp; omega
  have g2 : decide (((cs.map ctD).length : Int) ≤ 4) = true := by rw [hz]; simp; omega
  have g3 : decide (now ≥ 0) = true := by simpa using h0
  have g4 : decide (now ≤ 1099511627776) = true := by simp; omega
  refine eff_of Tryz.func14 rfl rfl rfl fun cx e hP => ?_
  refine AWP.runL e tab_ok L14 300 rfl (by trivial ) ?_
  repeat (
    first
      | (refine AWP.askT rfl ?_; ( (refine Told.t ?_ ?_; (focus assumption)) ); refine AWP.runL e tab_ok L14 300 rfl (by trivial ) ?_)
      | (refine AWP.callQ e rfl rfl ?_; (first | refine CallQ.mk (c1) rfl rfl ?_); refine AWP.runL e tab_ok L14 300 rfl (by trivial ) ?_)

    )
  refine AWP.ret e tab_ok rfl ?_
  rw [hP]
  all_goals rfl
end Go.Proofs.YthdcegeampcalaaGreatDoor
