import Derived.Test.YthfkoejjpfhcdaaF5
import Derived.Test.YthfkoejjpfhcdaaEd
open Go Go.Proofs Go.Sy
namespace Go.Proofs.Ythfkoejjpfhcdaa

def offW (set : Int) (p : Way) : Way := if p.st = set then { p with its := [] } else p
/-- The first i are changed. -/
def chTo (f : Way → Way) (l : List Way) (i : Nat) : List Way := (l.take i).map f ++ l.drop i
theorem chTo_at {f : Way → Way} {l : List Way} {i : Nat} (h : i < l.length) : (chTo f l i)[i]? = some l[i] := by
  unfold chTo
  rw [List.getElem?_append_right (by simp; omega)]
  simp [Nat.min_eq_left (Nat.le_of_lt h), h]
theorem chTo_set {f : Way → Way} {l : List Way} {i : Nat} (h : i < l.length) : (chTo f l i).set i (f l[i]) = chTo f l (i + 1) := by
  unfold chTo
  rw [List.set_append_right _ _ (by simp; omega)]
  simp only [List.length_map, List.length_take, Nat.min_eq_left (Nat.le_of_lt h), Nat.sub_self]
  rw [List.drop_eq_getElem_cons h, List.set_cons_zero, List.take_succ_eq_append_getElem h, List.map_append, List.append_assoc]
  rfl
theorem chTo_end (f : Way → Way) (l : List Way) : chTo f l l.length = l.map f := by unfold chTo; simp
theorem rowP_at {f : Way → Way} {l : List Way} {i : Nat} (h : i < l.length) : (rowP (chTo f l i))[i]? = some (pS l[i]) := by
  simp only [rowP, List.getElem?_map, chTo_at h]
  rfl
theorem rowP_set {f : Way → Way} {l : List Way} {i : Nat} (h : i < l.length) : (rowP (chTo f l i)).set i (pS (f l[i])) = rowP (chTo f l (i + 1)) := by
  rw [← chTo_set h]
  simp only [rowP, List.map_set]
  rfl
theorem set_same {α : Type} {l : List α} {i : Nat} {x : α} (h : l[i]? = some x) : l.set i x = l := by
  obtain ⟨h1, rfl⟩ := List.getElem?_eq_some_iff.1 h
  exact List.set_getElem_self h1
set_option maxRecDepth 100000 in
set_option maxHeartbeats 2000000 in
theorem eachOff_eff (l : List Way) (set : Int) (hl : l.length ≤ 1000) : Eff Try.prog 16 [slP l, .fn (.func 17) [] [.ip [.v (.int .i64 set)]]] [] 0 (fun r _ _ => r = slP (l.map (offW set))) := by
  refine eff_of Try.func16 rfl rfl rfl fun cx e hP => ?_
  refine AWP.runL e tab_ok L16 300 rfl (by first | trivial | (simp [in64] <;> omega) | (simp only [in64, true_and, and_true]; omega)) ?_
  refine AWP.enter e rfl Try.func23 rfl rfl rfl rfl fun cx' e' hP' => ?_
  refine AWP.runL e' tab_ok L23 8 rfl (by trivial) ?_
  refine AWP.nilq e' tab_ok true rfl rfl rfl rfl rfl rfl (.inl ⟨rfl, rfl⟩) fun b hb => ?_
  refine AWP.runL e' tab_ok L23 300 rfl (by first | trivial | (simp [in64] <;> omega) | (simp only [in64, true_and, and_true]; omega)) ?_
  cases b
  · refine AWP.cond rfl false rfl ?_
    refine AWP.runL e' tab_ok L23 300 rfl (by first | trivial | (simp [in64] <;> omega) | (simp only [in64, true_and, and_true]; omega)) ?_
    refine AWP.append e' tab_ok rfl rfl rfl rfl rfl rfl rfl rfl (.sl (l.map pD)) rfl (rowP_cells l) (by simp; omega) (by simp; omega) fun C hC => ?_
    refine AWP.runL e' tab_ok L23 300 rfl (by first | trivial | (simp [in64] <;> omega) | (simp only [in64, true_and, and_true]; omega)) ?_
    refine AWP.ret e' tab_ok rfl ?_
    rw [hP']
    show AWP cx _ _
    refine AWP.runL e tab_ok L16 300 rfl (by first | trivial | (simp [in64] <;> omega) | (simp only [in64, true_and, and_true]; omega)) ?_
    refine AWP.loop (ι := Nat) (fun i => ⟨[(10, .i i), (9, .i l.length), (0, .own 1 6 0 l.length C), (1, .fn (.func 17) [] [.ip [.v (.int .i64 set)]])], [(1, .row 38 false 6 (rowP (chTo (offW set) l i)) C)], 2⟩) (fun i => i ≤ l.length) (fun i => l.length - i) 0 (Nat.zero_le _) ?_ ?_
    · intro g
      have h0 : (List.map (fun x => List.map SV.d x) (l.map pD)).length = l.length := by simp
      refine AWP.lessR e [] ?_ ?_ ?_ ?_ ?_ ?_ g
      · refine ⟨rfl, ?_, ?_, rfl, trivial⟩
        · exact congrArg (fun n : Nat => some (SV.i n)) (by rw [h0, Nat.zero_add])
        · exact congrArg (fun n : Nat => some (SV.own 1 6 0 n C)) (by rw [h0, Nat.zero_add])
      · exact ⟨rfl, trivial⟩
      · rfl
      · exact ⟨rfl, okRow _, trivial⟩
      · rfl
      · rfl
    intro i Φ hi next
    refine AWP.runL e tab_ok L16 300 rfl (by first | trivial | (simp [in64] <;> omega) | (simp only [in64, true_and, and_true]; omega)) ?_
    refine AWP.cond2 rfl (fun hlt => ?_) (fun hlt => ?_)
    · have hlt : i < l.length := by have := of_decide_eq_true hlt; omega
      have hel := rowP_at (f := offW set) hlt
      have hset := rowP_set (f := offW set) hlt
      have nx := next (i + 1) hlt (by omega)
      clear next
      have hoff : offW set l[i] = if l[i].st = set then { l[i] with its := [] } else l[i] := rfl
      generalize l[i] = p at *
      refine AWP.runL e tab_ok L16 300 rfl (by first | trivial | (simp [in64] <;> omega) | (simp only [in64, true_and, and_true]; omega)) ?_
      refine AWP.idx_own e tab_ok rfl rfl rfl rfl i rfl hlt ?_
      rw [Nat.zero_add]
      refine AWP.runL e tab_ok L16 300 rfl (by first | trivial | (simp [in64] <;> omega) | (simp only [in64, true_and, and_true]; omega)) ?_
      refine AWP.enter e rfl Try.func17 rfl rfl rfl rfl fun cx' e' hP' => ?_
      refine AWP.runL e' tab_ok L17 300 rfl (by first | trivial | (simp [in64] <;> omega) | (simp only [in64, true_and, and_true]; omega)) ?_
      refine AWP.keep L17 rfl ?_
      refine AWP.drg 100 ?_
      (refine DrG.runN e' tab_ok 200 rfl (by first | trivial | (simp [in64] <;> omega) | (simp only [in64, true_and, and_true]; omega)) ?_)
      refine DrG.load_el (.i p.st) e' tab_ok rfl rfl rfl rfl hel rfl rfl ?_
      (refine DrG.runN e' tab_ok 200 rfl (by first | trivial | (simp [in64] <;> omega) | (simp only [in64, true_and, and_true]; omega)) ?_)
      refine DrG.finK e' rfl ?_ rfl rfl rfl ?_ ?_
      (focus kernel_rfl)
      (focus (repeat' (first | exact True.intro | (refine And.intro ?_ ?_) | rfl | assumption | exact okRow _)))
      dsimp only [tmS, hpS, tput, effH]
      rcases cases_b (p.st == set) with q | q
      · rw [if_pos (by simpa using q)] at hoff
        rw [hoff] at hset
        refine AWP.runL e' tab_ok L17 300 rfl (by first | trivial | (simp [in64] <;> omega) | (simp only [in64, true_and, and_true]; omega)) ?_
        repeat (
          first
            | (refine AWP.askT rfl ?_; (first | (refine Told.t rfl ?_) | (refine Told.f rfl ?_) | (refine Told.t ?_ ?_; (focus assumption)) | (refine Told.f ?_ ?_; (focus assumption)) | (refine Told.t ?_ ?_; (focus (first | (simp; omega) | (simp [*]; done)); done)) | (refine Told.f ?_ ?_; (focus (first | (simp; omega) | (simp [*]; done)); done))); refine AWP.runL e' tab_ok L17 300 rfl (by first | trivial | (simp [in64] <;> omega) | (simp only [in64, true_and, and_true]; omega)) ?_)
            | (refine AWP.eq_agg e' tab_ok rfl rfl rfl (.inl ⟨rfl, rfl⟩) ?_ 5 (by omega) rfl ?_ rfl rfl rfl rfl rfl rfl rfl ?_; (focus kernel_rfl); (focus kernel_rfl); refine AWP.runL e' tab_ok L17 300 rfl (by first | trivial | (simp [in64] <;> omega) | (simp only [in64, true_and, and_true]; omega)) ?_)
            | (refine AWP.eq_agg e' tab_ok rfl rfl rfl (.inr ⟨rfl, rfl⟩) ?_ 5 (by omega) rfl ?_ rfl rfl rfl rfl rfl rfl rfl ?_; (focus kernel_rfl); (focus kernel_rfl); refine AWP.runL e' tab_ok L17 300 rfl (by first | trivial | (simp [in64] <;> omega) | (simp only [in64, true_and, and_true]; omega)) ?_)
          )
        refine AWP.store_el e' tab_ok rfl rfl rfl rfl rfl hel rfl rfl rfl rfl ?_
        refine AWP.weakR 1 i (el' := pS { p with its := [] }) rfl (List.getElem?_set_self (by rw [List.getElem?_eq_some_iff] at hel; exact hel.1)) (.cons (.refl _) (.cons (.refl _) (.cons (.refl _) (.cons (.nil 1) (.cons (.refl _) (.cons (.refl _) .nil)))))) ?_
        rw [List.set_set, hset]
        refine AWP.runL e' tab_ok L17 300 rfl (by first | trivial | (simp [in64] <;> omega) | (simp only [in64, true_and, and_true]; omega)) ?_
        (first | (refine AWP.ret e' tab_ok rfl ?_) | (refine AWP.fin e' tab_ok rfl ?_)); rw [hP']; show AWP cx _ _
        refine AWP.runL e tab_ok L16 300 rfl (by first | trivial | (simp [in64] <;> omega) | (simp only [in64, true_and, and_true]; omega)) ?_
        refine AWP.lessR e [] ?_ ?_ ?_ ?_ ?_ ?_ nx
        · exact ⟨rfl, rfl, rfl, rfl, trivial⟩
        · exact ⟨rfl, trivial⟩
        · rfl
        · exact ⟨rfl, okRow _, trivial⟩
        · rfl
        · rfl
      · rw [if_neg (by simpa using q)] at hoff
        rw [hoff, set_same hel] at hset
        rw [hset]
        refine AWP.runL e' tab_ok L17 300 rfl (by first | trivial | (simp [in64] <;> omega) | (simp only [in64, true_and, and_true]; omega)) ?_
        repeat (
          first
            | (refine AWP.askT rfl ?_; (first | (refine Told.t rfl ?_) | (refine Told.f rfl ?_) | (refine Told.t ?_ ?_; (focus assumption)) | (refine Told.f ?_ ?_; (focus assumption)) | (refine Told.t ?_ ?_; (focus (first | (simp; omega) | (simp [*]; done)); done)) | (refine Told.f ?_ ?_; (focus (first | (simp; omega) | (simp [*]; done)); done))); refine AWP.runL e' tab_ok L17 300 rfl (by first | trivial | (simp [in64] <;> omega) | (simp only [in64, true_and, and_true]; omega)) ?_)
            | (refine AWP.eq_agg e' tab_ok rfl rfl rfl (.inl ⟨rfl, rfl⟩) ?_ 5 (by omega) rfl ?_ rfl rfl rfl rfl rfl rfl rfl ?_; (focus kernel_rfl); (focus kernel_rfl); refine AWP.runL e' tab_ok L17 300 rfl (by first | trivial | (simp [in64] <;> omega) | (simp only [in64, true_and, and_true]; omega)) ?_)
            | (refine AWP.eq_agg e' tab_ok rfl rfl rfl (.inr ⟨rfl, rfl⟩) ?_ 5 (by omega) rfl ?_ rfl rfl rfl rfl rfl rfl rfl ?_; (focus kernel_rfl); (focus kernel_rfl); refine AWP.runL e' tab_ok L17 300 rfl (by first | trivial | (simp [in64] <;> omega) | (simp only [in64, true_and, and_true]; omega)) ?_)
          )
        (first | (refine AWP.ret e' tab_ok rfl ?_) | (refine AWP.fin e' tab_ok rfl ?_)); rw [hP']; show AWP cx _ _
        refine AWP.runL e tab_ok L16 300 rfl (by first | trivial | (simp [in64] <;> omega) | (simp only [in64, true_and, and_true]; omega)) ?_
        refine AWP.lessR e [] ?_ ?_ ?_ ?_ ?_ ?_ nx
        · exact ⟨rfl, rfl, rfl, rfl, trivial⟩
        · exact ⟨rfl, trivial⟩
        · rfl
        · exact ⟨rfl, okRow _, trivial⟩
        · rfl
        · rfl
    · have hlt : ¬ i < l.length := by have := of_decide_eq_false hlt; omega
      obtain rfl : i = l.length := by omega
      rw [chTo_end]
      refine AWP.runL e tab_ok L16 300 rfl (by first | trivial | (simp [in64] <;> omega) | (simp only [in64, true_and, and_true]; omega)) ?_
      refine AWP.freezeF (id := 1) ((l.map (offW set)).map pD) rfl ?_ rfl rfl ?_ ?_ ?_
      (focus (rfl))
      (focus (first | (simp [lenFT, lenF, lenF.go]; done) ))
      (focus (first | (simp [lenFH]; done) ))
      refine AWP.ret e tab_ok rfl ?_
      rw [hP]
      rfl
  · refine AWP.cond rfl true rfl ?_
    refine AWP.runL e' tab_ok L23 300 rfl (by first | trivial | (simp [in64] <;> omega) | (simp only [in64, true_and, and_true]; omega)) ?_
    refine AWP.ret e' tab_ok rfl ?_
    rw [hP']
    show AWP cx _ _
    refine AWP.runL e tab_ok L16 300 rfl (by first | trivial | (simp [in64] <;> omega) | (simp only [in64, true_and, and_true]; omega)) ?_
    have hb' : (l.map pD).length = 0 := hb rfl
    obtain rfl : l = [] := List.eq_nil_of_length_eq_zero (by simpa using hb')
    refine AWP.loop (ι := Unit) (fun _ => ⟨[(10, .i 0), (9, .i 0), (0, .d .nil)], [], 0⟩) (fun _ => True) (fun _ => 0) () trivial ?_ ?_
    · intro g
      refine AWP.less e ?_ ?_ ?_ ?_ ?_ (g) <;> (repeat' (first | exact True.intro | (refine And.intro ?_ ?_) | rfl | assumption))
    intro _ Φ _ next
    refine AWP.runL e tab_ok L16 300 rfl (by first | trivial | (simp [in64] <;> omega) | (simp only [in64, true_and, and_true]; omega)) ?_
    repeat (
      first
        | (refine AWP.askT rfl ?_; (first | (refine Told.t rfl ?_) | (refine Told.f rfl ?_) | (refine Told.t ?_ ?_; (focus assumption)) | (refine Told.f ?_ ?_; (focus assumption)) | (refine Told.t ?_ ?_; (focus (first | (simp; omega) | (simp [*]; done)); done)) | (refine Told.f ?_ ?_; (focus (first | (simp; omega) | (simp [*]; done)); done))); refine AWP.runL e tab_ok L16 300 rfl (by first | trivial | (simp [in64] <;> omega) | (simp only [in64, true_and, and_true]; omega)) ?_)
        | (refine AWP.eq_agg e tab_ok rfl rfl rfl (.inl ⟨rfl, rfl⟩) ?_ 5 (by omega) rfl ?_ rfl rfl rfl rfl rfl rfl rfl ?_; (focus kernel_rfl); (focus kernel_rfl); refine AWP.runL e tab_ok L16 300 rfl (by first | trivial | (simp [in64] <;> omega) | (simp only [in64, true_and, and_true]; omega)) ?_)
        | (refine AWP.eq_agg e tab_ok rfl rfl rfl (.inr ⟨rfl, rfl⟩) ?_ 5 (by omega) rfl ?_ rfl rfl rfl rfl rfl rfl rfl ?_; (focus kernel_rfl); (focus kernel_rfl); refine AWP.runL e tab_ok L16 300 rfl (by first | trivial | (simp [in64] <;> omega) | (simp only [in64, true_and, and_true]; omega)) ?_)
      )
    refine AWP.retW e tab_ok rfl (r' := slP []) ?_ ?_
    (focus (repeat' (first | exact WkL.nil | (refine WkL.cons ?_ ?_) | exact Wk.refl _ | exact Wk.nil _ | (refine Wk.aggL ?_) | (refine Wk.tupL ?_))))
    rw [hP]
    rfl
end Go.Proofs.Ythfkoejjpfhcdaa
