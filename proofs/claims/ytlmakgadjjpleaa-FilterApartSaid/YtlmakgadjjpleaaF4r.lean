import Derived.Test.YtlmakgadjjpleaaF4
open Go Go.Proofs Go.Sy
namespace Go.Proofs.Ytlmakgadjjpleaa

def findR (n : Nat) : Code → Option (Array Oper)
  | .region i a _ => bif Nat.beq i n then some a else none
  | .seq x y => match findR n x with
    | some a => some a
    | none => findR n y
  | .cond _ x y => match findR n x with
    | some a => some a
    | none => findR n y
  | .loop x => findR n x
  | .block _ x => findR n x
  | _ => none
def opsR (f : Func) (n : Nat) : Array Oper := match f.body with
  | some c => (findR n c).getD #[]
  | none => #[]

abbrev apHp (p q k m x mn mx ev fr old cnt : Int) : List (Nat × Blk) := [(3, .box (cells p m x mn mx ev fr old cnt)), (4, .box (cells q m x mn mx ev fr old cnt)), (0, .box (cells k m x mn mx ev fr old cnt)), (1, .row 40 false 2 [[.i 1, .i 2], [.i 3, .i 4], [.i 6, .i 7]] 3)]
abbrev apTm (i : Nat) (v : Int) : List (Nat × SV) := [(18, .i i), (17, .i 3), (16, .own 1 2 0 3 3), (1, .i v), (2, .ptr 0 0), (4, .b false)]

theorem ap_row : Blk.okR 5 (.row 40 false 2 [[.i 1, .i 2], [.i 3, .i 4], [.i 6, .i 7]] 3) := by
  intro e he
  simp at he
  rcases he with rfl | rfl | rfl <;> rfl

set_option maxRecDepth 100000 in
theorem apart_r4 {cx : Cx} (e : Env cx Try.prog Try.f4 0) (kk : List It) (p q k m x mn mx ev fr old cnt v : Int) (i : Nat)
    (hk : AWP cx kk ⟨(8, .ptr 4 0) :: (7, .ptr 3 0) :: (6, .ptr 2 0) :: apTm i v, [(3, .box (cells k m x mn mx ev fr old cnt)), (4, .box (cells k m x mn mx ev fr old cnt)), (2, .box [.i p, .i q]), (0, .box (cells k m x mn mx ev fr old cnt)), (1, .row 40 false 2 [[.i 1, .i 2], [.i 3, .i 4], [.i 6, .i 7]] 3)], 5⟩) :
    AWPAny cx (opsR Try.f4 4) [] 6 kk ⟨(6, .ptr 2 0) :: apTm i v, [(2, .box [.i p, .i q]), (0, .box (cells k m x mn mx ev fr old cnt)), (1, .row 40 false 2 [[.i 1, .i 2], [.i 3, .i 4], [.i 6, .i 7]] 3)], 3⟩ := by
  have hrow := ap_row
  repeat' (first
    | ((with_reducible apply AWPAny.go2); (focus exact rfl); (focus exact rfl))
    | ((with_reducible apply AWPAny.done); (focus exact rfl); refine AWP.lessR e [] ?_ ?_ ?_ ?_ ?_ ?_ hk <;> ((repeat' (first | exact True.intro | (refine And.intro ?_ ?_) | rfl | assumption)); done))
    | ((with_reducible apply AWPAny.done); (focus exact rfl); refine AWP.lessR e [(3, 4), (4, 3)] ?_ ?_ ?_ ?_ ?_ ?_ hk <;> ((repeat' (first | exact True.intro | (refine And.intro ?_ ?_) | rfl | assumption)); done))
    | exact True.intro
    | (refine And.intro ⟨_, rfl, fun Φ next => ?_⟩ ?_)
    | (refine AWP.run e tab_ok 300 rfl (by first | trivial | (simp [in64] <;> omega)) ?_; (with_reducible refine next _ ?_))
    | (apply AWP.idx_ptr (n := 0) e tab_ok; (focus exact rfl); (focus exact rfl); (focus exact rfl); (focus exact rfl); (focus exact rfl); (focus exact rfl); (focus decide))
    | (apply AWP.idx_ptr (n := 1) e tab_ok; (focus exact rfl); (focus exact rfl); (focus exact rfl); (focus exact rfl); (focus exact rfl); (focus exact rfl); (focus decide)))

set_option maxRecDepth 100000 in
theorem apart_r5 {cx : Cx} (e : Env cx Try.prog Try.f4 0) (kk : List It) (p q k m x mn mx ev fr old cnt v : Int) (i : Nat)
    (hk : AWP cx kk ⟨(8, .ptr 4 0) :: (7, .ptr 3 0) :: apTm i v, apHp p q k m x mn mx ev fr old cnt, 5⟩) :
    AWPAny cx (opsR Try.f4 5) [] 8 kk ⟨(8, .ptr 4 0) :: (7, .ptr 3 0) :: (6, .ptr 2 0) :: apTm i v, [(3, .box (cells k m x mn mx ev fr old cnt)), (4, .box (cells k m x mn mx ev fr old cnt)), (2, .box [.i p, .i q]), (0, .box (cells k m x mn mx ev fr old cnt)), (1, .row 40 false 2 [[.i 1, .i 2], [.i 3, .i 4], [.i 6, .i 7]] 3)], 5⟩ := by
  have hrow := ap_row
  repeat' (first
    | ((with_reducible apply AWPAny.go2); (focus exact rfl); (focus exact rfl))
    | ((with_reducible apply AWPAny.done); (focus exact rfl); refine AWP.lessR e [] ?_ ?_ ?_ ?_ ?_ ?_ hk <;> ((repeat' (first | exact True.intro | (refine And.intro ?_ ?_) | rfl | assumption)); done))
    | exact True.intro
    | (refine And.intro ⟨_, rfl, fun Φ next => ?_⟩ ?_)
    | (refine AWP.run e tab_ok 300 rfl (by first | trivial | (simp [in64] <;> omega)) ?_; (with_reducible refine next _ ?_))
    | (apply AWP.idx_ptr (n := 0) e tab_ok; (focus exact rfl); (focus exact rfl); (focus exact rfl); (focus exact rfl); (focus exact rfl); (focus exact rfl); (focus decide))
    | (apply AWP.idx_ptr (n := 1) e tab_ok; (focus exact rfl); (focus exact rfl); (focus exact rfl); (focus exact rfl); (focus exact rfl); (focus exact rfl); (focus decide)))

end Go.Proofs.Ytlmakgadjjpleaa
