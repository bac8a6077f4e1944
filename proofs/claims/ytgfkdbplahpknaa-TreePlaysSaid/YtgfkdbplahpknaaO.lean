/-
  A part of the proof of a law: see the text that states it.
-/
import Derived.Test.YtgfkdbplahpknaaN
import Derived.Test.YtgfkdbplahpknaaVcE
import Derived.KernelRfl
set_option linter.all false
namespace Go.Am.T
open Go
set_option maxRecDepth 100000
def pl0 : Pl := ([[36, 101, 110, 100], [97], [98], [99]], ([[83]], ([(5, ([4], (0, ()))), (4, ([1, 2], (0, ())))], ([0, 0, 0, 0], ([0], ([[], []], ()))))))
theorem plan_run : callF PP orc 400 23 [.tv [] tSm ((2 : Int), ((0 : Int), ([(0 : Int)], ([[(0 : Int), (1 : Int)]], ([], ([], ([], ())))))))] [] = some (.tv [] tPl pl0, []) := by kernel_rfl
abbrev bT (x : Tok) : Th := (((-1 : Int), (x.1, (x, (([] : List Int), (true, (true, ())))))), ((1 : Int), ()))
abbrev w1 : Heap := hT 1 [leafT (1, 0, 1, ())] [] 1 6 1 1
abbrev w2 : Heap := hT 2 [leafT (1, 0, 1, ()), leafT (2, 1, 2, ())] [] 2 6 2 2
abbrev w3 : Heap := hT 3 [bT (1, 0, 1, ()), bT (2, 1, 2, ()), nodeT 1 4 [0, 1]] [] 5 6 5 5
abbrev w4 : Heap := hT 4 [bT (1, 0, 1, ()), bT (2, 1, 2, ()), nodeT 1 4 [0, 1], leafT (3, 0, 0, ())] [] 6 6 6 6
theorem run1 : callF PP orc 60 12 [.op (0, 0) [], .tv [] tTok ((1 : Int), ((0 : Int), ((1 : Int), ())))] (hT 0 [] [] 0 6 0 0) = some (.tup [iv 0, iv 0], w1) := by kernel_rfl
theorem run2 : callF PP orc 60 12 [.op (0, 0) [], .tv [] tTok ((2 : Int), ((1 : Int), ((2 : Int), ())))] w1 = some (.tup [iv 1, iv 0], w2) := by kernel_rfl
theorem run3 : callF PP orc 60 13 [.op (0, 0) [], iv 1, iv 4, lv [(0 : Int), (1 : Int)]] w2 = some (.tup [iv 2, iv 0], w3) := by kernel_rfl
theorem run4 : callF PP orc 60 13 [.op (0, 0) [], iv 1, iv 4, lv [(0 : Int)]] w3 = some (.tup [iv 0, iv 15], w3) := by kernel_rfl
theorem run5 : callF PP orc 60 12 [.op (0, 0) [], .tv [] tTok ((3 : Int), ((0 : Int), ((0 : Int), ())))] w3 = some (.tup [iv 3, iv 0], w4) := by kernel_rfl
theorem run6 : callF PP orc 90 40 [.op (0, 0) [], .tv [] tPl pl0, iv 2] w4 = some (.tv [] .str [(40 : Int), (83 : Int), (32 : Int), (97 : Int), (32 : Int), (98 : Int), (41 : Int)], w4) := by kernel_rfl
theorem run7 : callF PP orc 60 29 [.op (0, 0) []] w4 = some (iv 6, w4) := by kernel_rfl
theorem run8 : callF PP orc 90 25 [.op (0, 0) [], .tv [] tPl pl0, iv 2] w4 = some (bv true, w4) := by kernel_rfl
theorem awake_ev : E 9 [] [] (bv true) [] := by
 refine ev_of (vc9 _ ?_)
 ((repeat apply Exists.intro); refine And.intro (Need.mk (ev_call plan_run)) ?_)
 ((repeat apply Exists.intro); refine And.intro (Need.mk (mnew_ev 6)) ?_)
 ((repeat apply Exists.intro); refine And.intro (Need.mk (tnew_ev (heldK 6) 0 0)) ?_)
 refine ⟨nofun, fun _ => ?_⟩
 ((repeat apply Exists.intro); refine And.intro (Need.mk (ev_call run1)) ?_)
 ((repeat apply Exists.intro); refine And.intro (Need.mk (ev_call run2)) ?_)
 ((repeat apply Exists.intro); refine And.intro (Need.mk (ev_call run3)) ?_)
 ((repeat apply Exists.intro); refine And.intro (Need.mk (ev_call run4)) ?_)
 ((repeat apply Exists.intro); refine And.intro (Need.mk (ev_call run5)) ?_)
 refine ⟨fun _ => ⟨fun _ => ⟨fun _ => ⟨fun _ => ⟨fun _ => ⟨fun _ => ?_, fun h => by simp at h⟩, fun h => by simp at h⟩, fun h => by simp at h⟩, fun h => by simp at h⟩, fun h => by simp at h⟩, fun h => by simp at h⟩
 ((repeat apply Exists.intro); refine And.intro (Need.mk (ev_call run6)) ?_)
 refine ⟨fun _ => ?_, fun h => by simp at h⟩
 ((repeat apply Exists.intro); refine And.intro (Need.mk (ev_call run7)) ?_)
 refine ⟨fun _ => ?_, fun h => by simp at h⟩
 ((repeat apply Exists.intro); refine And.intro (Need.mk (ev_call run8)) ?_)
 exact ⟨rfl, rfl⟩
end Go.Am.T
