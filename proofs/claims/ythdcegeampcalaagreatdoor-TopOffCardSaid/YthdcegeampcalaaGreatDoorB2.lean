/-
  The level of a bus is the lesser of what is driven. Condition: what the theorems state ahead.
-/
import Derived.Test.YthdcegeampcalaaGreatDoorB1
open Go Go.Proofs Go.Sy Go.Stuff
namespace Go.Proofs.YthdcegeampcalaaGreatDoor
abbrev sF (d : UInt8) : List SV := [.s (strL [d])]
theorem sF_ids (l : List UInt8) (m : Nat) : ∀ e ∈ l.map sF, SV.idsLt.go m e = true := by
  intro e he
  obtain ⟨b, _, rfl⟩ := List.mem_map.1 he
  rfl
theorem one_at (c : UInt8) : ∀ (j : Nat) (b : UInt8), [c][j]? = some b → [u8S c][0 + j]? = some (u8S b) := one_row c
set_option maxRecDepth 100000 in
set_option maxHeartbeats 4000000 in
theorem level_eff (cs : List Ct) (now : Int) (ds : List UInt8) (b : UInt8) (hl : cs.length ≤ 4) (hds : ds.length = cs.length) (hd : ∀ (i : Nat) (h : i < cs.length) (h2 : i < ds.length), Eff Tryz.prog 52 [.agg (ctV cs[i])] [] 0 (fun r _ _ => r = .tup [U ds[i], .i 0]))
    (hA : andR (ds.map fun d => [d]) = ([b], 0)) : Eff Tryz.prog 29 [busV cs now] [] 0 (fun r _ _ => r = U b) := by
  have hz : (cs.map ctD).length = cs.length := List.length_map _
  have c2 := and_eff (ds.map fun d => [d]) (by simp; omega) (by
    intro r hr
    obtain ⟨d, _, rfl⟩ := List.mem_map.1 hr
    show 1 ≤ 4100
    omega)
  rw [hA, show rowsV (ds.map fun d => [d]) = .d (.sl 1 (ds.map fun d => [DV.v (.string (strL [d]))])) by unfold rowsV; rw [List.map_map]; rfl] at c2
  have hb0 : byteAt (strL [b]) 0 = (b.toNat : Int) := rfl
  have hbz : (strL [b]).size = 1 := rfl
  refine eff_of Tryz.func29 rfl rfl rfl fun cx e hP => ?_
  refine AWP.runL e tab_ok L29 300 rfl (by trivial ) ?_
  refine AWP.nil_own (t := 3) rfl 9 1 ?_
  refine AWP.loop (ι := Nat × Nat) (fun x => ⟨[(13, .i x.1), (12, .i cs.length), (11, .d (.sl 23 (cs.map ctD))), (3, .own 1 1 0 (ds.take x.1).length x.2), (1, .ptr 0 0)], [(0, .box [.d (.sl 23 (cs.map ctD)), .i now]), (1, .row 9 false 1 ((ds.take x.1).map sF) x.2)], 2⟩) (fun x => x.1 ≤ cs.length) (fun x => cs.length - x.1) (0, 0) (Nat.zero_le _) ?_ ?_
  · intro g
    refine AWP.less e ?_ ?_ ?_ ?_ ?_ (g) <;> (repeat' (first | exact True.intro | (refine And.intro ?_ ?_) | rfl))
    · exact congrArg (fun z : Nat => some (SV.i z)) hz
    · exact sF_ids _ 2
  rintro ⟨i, C⟩ Φ hi next
  dsimp only at hi next ⊢
  refine AWP.runL e tab_ok L29 300 rfl (by trivial ) ?_
  refine AWP.cond2 rfl (fun hlt => ?_) (fun hlt => ?_)
  · have hlt : i < cs.length := by have := of_decide_eq_true hlt; omega
    have hel := ct_at hlt
    have c1 := hd i hlt (by omega)
    have nx := fun C2 => next (i + 1, C2) hlt (by show cs.length - (i + 1) < cs.length - i; omega)
    dsimp only at nx
    rw [List.take_succ_eq_append_getElem (show i < ds.length by omega)] at nx
    have hle : (ds.take i).length ≤ 4 := by rw [List.length_take]; omega
    clear next hd
    generalize ds[i] = d at *
    generalize cs[i] = c at *
    generalize ds.take i = l at *
    refine AWP.runL e tab_ok L29 300 rfl (by trivial ) ?_
    refine AWP.idx e tab_ok rfl rfl rfl rfl i rfl hel ?_
    refine AWP.runL e tab_ok L29 300 rfl (by trivial ) ?_
    repeat (

        (refine AWP.callQ e rfl rfl ?_; (first | refine CallQ.mk (c1) rfl rfl ?_); refine AWP.runL e tab_ok L29 300 rfl (by trivial ) ?_)

      )
    refine AWP.bytesStr e tab_ok [d] rfl rfl rfl rfl rfl rfl rfl rfl rfl rfl (one_row d) ?_
    refine AWP.runL e tab_ok L29 300 rfl (by trivial ) ?_
    refine AWP.append1 sF l d e tab_ok rfl rfl rfl rfl rfl rfl rfl rfl rfl rfl rfl rfl rfl rfl (by show (_ + 1) * 16 ≤ _; omega) (by omega) fun C2 => ?_
    refine AWP.runL e tab_ok L29 300 rfl (by  (simp [in64] <;> omega)) ?_
    refine AWP.lessR e [(1, 5)] ?_ ?_ ?_ ?_ ?_ ?_ ((nx C2)) <;> (repeat' (first | exact True.intro | (refine And.intro ?_ ?_) | rfl))
    exact sF_ids _ 0
  · have hlt : ¬ i < cs.length := by have := of_decide_eq_false hlt; omega
    obtain rfl : i = cs.length := by omega
    rw [List.take_of_length_le (by omega)]
    clear next
    refine AWP.runL e tab_ok L29 300 rfl (by trivial ) ?_
    refine AWP.freezeF (id := 1) (ds.map (fun d => [DV.v (.string (strL [d]))])) rfl ?_ rfl rfl ?_ ?_ ?_
    (focus (simp [sF]))
    (focus (first | (simp [lenFT, lenFH, lenF, lenF.go, tput, argT, strip, adel, Nat.beq, frzF, frzF.go]; done) ))
    (focus (first | (simp [lenFT, lenFH, lenF, lenF.go, tput, argT, strip, adel, Nat.beq, frzF, frzF.go]; done) ))
    refine AWP.runL e tab_ok L29 300 rfl (by trivial ) ?_
    repeat (

        (refine AWP.callQ e rfl rfl ?_; (first | refine CallQ.mk (c2) rfl rfl ?_); refine AWP.runL e tab_ok L29 300 rfl (by  (simp [in64] <;> omega)) ?_)

      )
    refine AWP.ret e tab_ok rfl ?_
    rw [hP]
    exact congrArg (fun z => SV.d (.v (.int .u8 z))) hb0
end Go.Proofs.YthdcegeampcalaaGreatDoor
