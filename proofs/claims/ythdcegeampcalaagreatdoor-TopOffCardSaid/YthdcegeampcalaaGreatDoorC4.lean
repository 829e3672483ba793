/-
  What a controller reads, for every frame that may be. Condition: what the theorems state ahead.
-/
import Derived.Test.YthdcegeampcalaaGreatDoorC3
open Go Go.Proofs
namespace Go.Sy
section
variable {cx : Cx} {P : Program} {fn : Func} {lo : Nat} {T : Tab} {tm : List (Nat × SV)} {hp : List (Nat × Blk)} {nx : Nat} {all : Array Oper}
theorem VStep.bytesStrD (e : Env cx P fn lo) (hT : TabOk P T) {d : Nat} {ty : TypeId} {pos : String} {after : Array Edge} {src dst te : TypeId} {x : Operand} {ys yt ye : Ty} {xs : List (List DV)} (l : List UInt8) (hd : Nat.blt d fn.ntmps = true) (h1 : opd ⟨tm, hp, nx⟩ x = some (.d (.sl 1 xs))) (h2 : aget src T = some ys) (h3 : ys.td = .slice te) (h4 : aget dst T = some yt) (h5 : yt.td = .str) (h6 : aget te T = some ye) (h7 : ye.td = .int .u8)
    (hl : xs = l.map u8D) : VStep cx all hp nx ⟨some d, .convert src dst x, ty, pos, after, none⟩ tm d (.s (strL l)) := by
  intro tm' k ha g
  exact AWP.bytesStrD e hT l hd ((opd_eq fun u hu => ha u (looks_ops (by simp [Op.operands]) hu)).trans h1) h2 h3 h4 h5 h6 h7 hl g
end
end Go.Sy
namespace Go.Proofs.YthdcegeampcalaaGreatDoor
open Go.Sy Go.Stuff
theorem unst_len (l : List UInt8) : ∀ (x : X) (p : List UInt8 × X), unst x l = some p → p.1.length ≤ l.length := by
  induction l with
  | nil => intro x p h; simp only [unst, Option.some.injEq] at h; rw [← h]; exact Nat.le_refl _
  | cons c l ih =>
    intro x p h
    simp only [unst] at h
    split at h
    · cases h
    · simp only [Option.map_eq_some_iff] at h
      obtain ⟨q, h1, h2⟩ := h
      have := ih _ q h1
      rw [← h2]
      show (if kind x c = 1 then c :: q.1 else q.1).length ≤ _
      split <;> simp only [List.length_cons] <;> omega
theorem okRow {m : Nat} (l : List UInt8) : ∀ e ∈ l.map u8S, SV.idsLt.go m e = true := u8_ids l m
theorem bitB {c : UInt8} (h : isB c) : bit c = true := by rcases h with h | h <;> rw [h] <;> rfl
set_option maxRecDepth 100000 in
set_option maxHeartbeats 4000000 in
theorem rdr_eff (f : Frm) (k : Nat) (hk : k ≤ (bodyF f).length) (hk2 : k ≤ 1000) : Eff Tryz.prog 68 [.s (strL ((bodyF f).take k))] [] 0 (fun r _ _ => r = .tup [.agg (xC (rd f k).2.1 (rd f k).2.2), .s (strL (rd f k).1)]) := by
  have hsz : (strL ((bodyF f).take k)).size = k := by rw [strL_size, List.length_take, Nat.min_eq_left hk]
  have hat : ∀ (i : Nat) (h : i < k), byteAt (strL ((bodyF f).take k)) i = (((bodyF f)[i]'(Nat.lt_of_lt_of_le h hk)).toNat : Int) := fun i h => by
    rw [b_at _ i (by rw [List.length_take]; omega)]
    simp
  generalize hs : (bodyF f).take k = s at *
  refine eff_of Tryz.func68 rfl rfl rfl fun cx e hP => ?_
  refine AWP.runL e tab_ok L68 300 rfl (by trivial ) ?_
  refine AWP.nil_own (t := 5) rfl 5 1 ?_
  refine AWP.loop (ι := Nat × Nat) (fun x => ⟨[(12, .i x.1), (11, .i k), (5, .own 2 1 0 (rd f x.1).1.length x.2), (4, .ptr 1 0), (2, .ptr 0 0), (0, .s (strL s))], [(0, .box [U 0, .i 0]), (1, .box [U (rd f x.1).2.1, .i (rd f x.1).2.2]), (2, .row 5 false 1 ((rd f x.1).1.map u8S) x.2)], 3⟩) (fun x => x.1 ≤ k) (fun x => k - x.1) (0, 0) (Nat.zero_le _) ?_ ?_
  · intro g
    refine AWP.less e ?_ ?_ ?_ ?_ ?_ (g) <;> (repeat' (first | exact True.intro | (refine And.intro ?_ ?_) | rfl))
    · exact congrArg (fun z : Nat => some (SV.i z)) hsz
    · exact u8_ids _ 3
  rintro ⟨i, C⟩ Φ hi next
  dsimp only at hi next ⊢
  refine AWP.runL e tab_ok L68 300 rfl (by trivial ) ?_
  refine AWP.cond2 rfl (fun hlt => ?_) (fun hlt => ?_)
  · have hlt : i < k := by have := of_decide_eq_true hlt; omega
    have nx := fun C2 => next (i + 1, C2) hlt (by show k - (i + 1) < k - i; omega)
    dsimp only at nx
    clear next
    have hlb : i < (bodyF f).length := by omega
    obtain ⟨hk3, hrd⟩ := rd_succ f hlb
    have R := rd_of f (Nat.le_of_lt hlb)
    have hrs := rd_right f (Nat.le_of_lt hlb)
    have hb : byteAt (strL s) i = (((bodyF f)[i]).toNat : Int) := hat i hlt
    have hcb := bitB (body_bits f _ (List.getElem_mem hlb))
    have h5 := R.five
    have hgl := R.len
    have hsl := sum_len f
    have hgb : (rd f i).1.length ≤ i := by
      have := R.some
      have := unst_len _ _ _ this
      rw [List.length_take] at this
      omega
    rw [hrd] at nx
    generalize (bodyF f)[i] = c at *
    generalize rd f i = q at *
    obtain ⟨g, x, n⟩ := q
    dsimp only at *
    have c2 : Eff Tryz.prog 42 [.agg (xC x n), .d (.v (.int .u8 (byteAt (strL s) i)))] [] 0 (fun r _ _ => r = stepR x n c) := by
      rw [hb]
      exact step_ok x n c hrs hcb h5
    unfold stepR at c2
    by_cases h5n : n = 5
    · have hk2 : kind (x, n) c = 2 := by
        unfold kind at hk3 ⊢
        rw [if_pos h5n] at hk3 ⊢
        split at hk3
        · exact absurd rfl hk3
        · rename_i h; rw [if_neg h]
      rw [hk2] at nx c2
      rw [if_neg (by decide)] at nx
      refine AWP.runL e tab_ok L68 300 rfl (by trivial ) ?_
      repeat (
        first
          | (refine AWP.askT rfl ?_; ( (refine Told.f rfl ?_) ); refine AWP.runL e tab_ok L68 300 rfl (by  (simp [in64] <;> omega)) ?_)
          | (refine AWP.keep L68 rfl ?_; refine AWP.drg 100 ?_; (refine DrG.runS e tab_ok 200 rfl (by  (simp [in64] <;> omega)) ?_); (repeat ( (refine DrG.callQ e rfl rfl ?_; (first | refine CallVQ.mk (c2) rfl rfl ?_); (refine DrG.runS e tab_ok 200 rfl (by trivial ) ?_)) )); refine DrG.finK e rfl ?_ rfl rfl rfl ?_ ?_; (focus kernel_rfl); (focus (repeat' (first | exact True.intro | (refine And.intro ?_ ?_) | rfl | exact okRow _))); dsimp only [tmS, hpS, tput, effH]; refine AWP.runL e tab_ok L68 300 rfl (by trivial ) ?_)
        )
      refine AWP.lessR e [] ?_ ?_ ?_ ?_ ?_ ?_ ((nx C)) <;> (repeat' (first | exact True.intro | (refine And.intro ?_ ?_) | rfl))
      exact u8_ids _ 0
    · have hk1 : kind (x, n) c = 1 := by unfold kind; rw [if_neg h5n]
      rw [hk1] at nx c2
      rw [if_pos rfl] at nx
      refine AWP.runL e tab_ok L68 300 rfl (by trivial ) ?_
      repeat (
        first
          | (refine AWP.askT rfl ?_; ((refine Told.t rfl ?_) ); refine AWP.runL e tab_ok L68 300 rfl (by  (simp [in64] <;> omega)) ?_)
          | (refine AWP.keep L68 rfl ?_; refine AWP.drg 100 ?_; (refine DrG.runS e tab_ok 200 rfl (by  (simp [in64] <;> omega)) ?_); (repeat ( (refine DrG.callQ e rfl rfl ?_; (first | refine CallVQ.mk (c2) rfl rfl ?_); (refine DrG.runS e tab_ok 200 rfl (by trivial ) ?_)) )); refine DrG.finK e rfl ?_ rfl rfl rfl ?_ ?_; (focus kernel_rfl); (focus (repeat' (first | exact True.intro | (refine And.intro ?_ ?_) | rfl | exact okRow _))); dsimp only [tmS, hpS, tput, effH]; refine AWP.runL e tab_ok L68 300 rfl (by trivial ) ?_)
        )
      refine AWP.append1 u8S g c e tab_ok rfl rfl rfl rfl rfl rfl rfl rfl rfl rfl rfl rfl (congrArg (fun z => [SV.d (.v (.int .u8 z))]) hb) rfl (by show (_ + 1) * 1 ≤ _; omega) (by omega) fun C2 => ?_
      refine AWP.runL e tab_ok L68 300 rfl (by  (simp [in64] <;> omega)) ?_
      refine AWP.lessR e [(2, 101)] ?_ ?_ ?_ ?_ ?_ ?_ ((nx C2)) <;> (repeat' (first | exact True.intro | (refine And.intro ?_ ?_) | rfl))
      exact u8_ids _ 0
  · have hlt : ¬ i < k := by have := of_decide_eq_false hlt; omega
    obtain rfl : i = k := by omega
    generalize rd f i = q at *
    obtain ⟨g, x, n⟩ := q
    dsimp only at *
    clear next
    refine AWP.freezeF (id := 2) (g.map u8D) rfl ?_ rfl rfl ?_ ?_ ?_
    (focus (simp [u8S, u8D]))
    (focus (first | (simp [lenFT, lenFH, lenF, lenF.go, tput, argT, strip, adel, Nat.beq, frzF, frzF.go]; done) ))
    (focus (first | (simp [lenFT, lenFH, lenF, lenF.go, tput, argT, strip, adel, Nat.beq, frzF, frzF.go]; done) ))
    refine AWP.runL e tab_ok L68 300 rfl (by trivial ) ?_
    repeat (

        (refine AWP.keep L68 rfl ?_; refine AWP.drg 100 ?_; (refine DrG.runS e tab_ok 200 rfl (by trivial ) ?_); (repeat ( (refine DrG.v rfl (fun _ => VStep.bytesStrD e tab_ok g rfl rfl rfl rfl rfl rfl rfl rfl rfl) rfl ?_; (refine DrG.runS e tab_ok 200 rfl (by trivial ) ?_)))); refine DrG.finK e rfl ?_ rfl rfl rfl ?_ ?_; (focus kernel_rfl); (focus (repeat' (first | exact True.intro | (refine And.intro ?_ ?_) | rfl ))); dsimp only [tmS, hpS, tput, effH]; refine AWP.runL e tab_ok L68 300 rfl (by trivial ) ?_)
      )
    refine AWP.ret e tab_ok rfl ?_
    rw [hP]
    all_goals rfl
end Go.Proofs.YthdcegeampcalaaGreatDoor
