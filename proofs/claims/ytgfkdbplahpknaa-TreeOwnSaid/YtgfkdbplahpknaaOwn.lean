/-
  A part of the proof of a law: see the text that states it.
-/
import Derived.Test.YtgfkdbplahpknaaAm4
import Derived.Test.YtgfkdbplahpknaaVc1
import Derived.KernelRfl
set_option linter.all false
namespace Go.Am.T
open Go
set_option maxRecDepth 100000
theorem ev_call {f : FuncId} {l : List AV} {h h' : Heap} {v : AV} {k : Nat} (hc : callF PP orc k f l h = some (v, h')) : E f l h v h' := ⟨k, fun m hm => callF_mono k m hm _ _ _ _ hc⟩
theorem ev_run {f : FuncId} {l : List AV} {h h' : Heap} {v : AV} {k : Nat} (hc : callG PP orc k f l h = some (v, h')) : E f l h v h' := ev_call (callG_ok k _ _ _ _ hc)
abbrev hT (g : Nat) (l : List Th) (cc a b c : Int) : Heap := [oT (0, 0) (0, 1), oA (0, 1) (0, 2) (0, 3) g l.length cc, oM (0, 2) a b c, oL (0, 3) g l]
abbrev hK (k : List Int) (g : Nat) (l : List Th) (cc a b c : Int) : Heap := [oT (0, 0) (0, 2), oI (0, 1) 0 k, oA (0, 2) (0, 3) (0, 4) g l.length cc, oM (0, 3) a b c, oL (0, 4) g l]
abbrev leafT (x : Tok) : Th := (((-1 : Int), (x.1, (x, (([] : List Int), (true, (false, ())))))), ((1 : Int), ()))
abbrev bT (x : Tok) : Th := (((-1 : Int), (x.1, (x, (([] : List Int), (true, (true, ())))))), ((1 : Int), ()))
abbrev nodeT (rule sym : Int) (ks : List Int) : Th := ((rule, (sym, (((0 : Int), ((0 : Int), ((0 : Int), ()))), (ks, (false, (false, ())))))), ((3 : Int), ()))
section
variable (x y : Tok) (rule sym : Int)
abbrev w2 : List Th := [leafT x, leafT y]
abbrev w3 : List Th := [bT x, bT y, nodeT rule sym [(0 : Int), (1 : Int)]]
theorem run_m : callG PP orc 60 11 [iv 10] [] = some (.op (1, 0) [], [oM (1, 0) 10 0 0]) := by kernel_rfl
theorem run_m6 : callG PP orc 60 11 [iv 6] [] = some (.op (1, 0) [], [oM (1, 0) 6 0 0]) := by kernel_rfl
theorem run_t6 : callG PP orc 60 10 [.op (0, 0) []] [oM (0, 0) 6 0 0] = some (.op (1, 0) [], [oT (1, 0) (1, 1), oL (1, 2) 0 [], oA (1, 1) (0, 0) (1, 2) 0 0 0, oM (0, 0) 6 0 0]) := by kernel_rfl
theorem run_t : callG PP orc 60 10 [.op (0, 0) []] [oM (0, 0) 10 0 0] = some (.op (1, 0) [], [oT (1, 0) (1, 1), oL (1, 2) 0 [], oA (1, 1) (0, 0) (1, 2) 0 0 0, oM (0, 0) 10 0 0]) := by kernel_rfl
theorem run_1 : callG PP orc 60 12 [.op (0, 0) [], .tv [] tTok x] (hT 0 [] 0 10 0 0) = some (.tup [iv 0, iv 0], hT 1 [leafT x] 1 10 1 1) := by kernel_rfl
theorem run_2 : callG PP orc 60 12 [.op (0, 0) [], .tv [] tTok y] (hT 1 [leafT x] 1 10 1 1) = some (.tup [iv 1, iv 0], hT 2 (w2 x y) 2 10 2 2) := by kernel_rfl
theorem run_n : callG PP orc 60 13 [.op (0, 0) [], iv rule, iv sym, kv (0, 1) 0 2] (hK [0, 1] 2 (w2 x y) 2 10 2 2) = some (.tup [iv 2, iv 0], hK [0, 1] 3 (w3 x y rule sym) 5 10 5 5) := by kernel_rfl
theorem run_k : callG PP orc 60 14 [.op (0, 0) [], iv 2] (hT 3 (w3 x y rule sym) 5 10 5 5) = some (kv (1, 0) 1 2, oI (1, 0) 1 [0, 1] :: hT 3 (w3 x y rule sym) 5 10 5 5) := by kernel_rfl
theorem run_b : callG PP orc 60 16 [.op (0, 0) [], iv 2] (hT 3 (w3 x y rule sym) 5 10 5 5) = some (kv (1, 0) 3 3, oI (1, 0) 3 [0, 1, 2] :: hT 3 (w3 x y rule sym) 5 10 5 5) := by kernel_rfl
theorem run_tok : callG PP orc 60 17 [.op (0, 0) [], iv 1] (hT 3 (w3 x y rule sym) 5 10 5 5) = some (.tv [] tTok y, hT 3 (w3 x y rule sym) 5 10 5 5) := by kernel_rfl
theorem run_rule : callG PP orc 60 18 [.op (0, 0) [], iv 2] (hT 3 (w3 x y rule sym) 5 10 5 5) = some (iv rule, hT 3 (w3 x y rule sym) 5 10 5 5) := by kernel_rfl
theorem run_leaf : callG PP orc 60 18 [.op (0, 0) [], iv 0] (hT 3 (w3 x y rule sym) 5 10 5 5) = some (iv (-1), hT 3 (w3 x y rule sym) 5 10 5 5) := by kernel_rfl
theorem run_sym : callG PP orc 60 19 [.op (0, 0) [], iv 2] (hT 3 (w3 x y rule sym) 5 10 5 5) = some (iv sym, hT 3 (w3 x y rule sym) 5 10 5 5) := by kernel_rfl
end
theorem run_i2 : callG PP orc 60 15 [kv (0, 0) 1 2, .tv [] qt4 [(0 : Int), (1 : Int)]] [oI (0, 0) 1 [0, 1]] = some (bv true, [oI (0, 0) 1 [0, 1]]) := by kernel_rfl
theorem run_i3 : callG PP orc 60 15 [kv (0, 0) 3 3, .tv [] qt4 [(0 : Int), (1 : Int), (2 : Int)]] [oI (0, 0) 3 [0, 1, 2]] = some (bv true, [oI (0, 0) 3 [0, 1, 2]]) := by kernel_rfl
abbrev tSm : Ty := .pair (.int .u8) (.pair (.int .u8) (.pair qt8 (.pair (.slice qt8) (.pair qt8 (.pair qt8 (.pair qt8 .unit))))))
abbrev Pl := List (List Int) × List (List Int) × List (Int × List Int × Int × Unit) × List Int × List Int × List (List Int) × Unit
def pl0 : Pl := ([[36, 101, 110, 100], [97], [98], [99]], ([[83]], ([(5, ([4], (0, ()))), (4, ([1, 2], (0, ())))], ([0, 0, 0, 0], ([0], ([[], []], ()))))))
theorem plan_run : callF PP orc 400 23 [.tv [] tSm ((2 : Int), ((0 : Int), ([(0 : Int)], ([[(0 : Int), (1 : Int)]], ([], ([], ([], ())))))))] [] = some (.tv [] tPl pl0, []) := by kernel_rfl
abbrev a3 : List Th := [bT (1, 0, 1, ()), bT (2, 1, 2, ()), nodeT 1 4 [(0 : Int), (1 : Int)]]
abbrev a4 : List Th := [bT (1, 0, 1, ()), bT (2, 1, 2, ()), nodeT 1 4 [(0 : Int), (1 : Int)], leafT (3, 0, 0, ())]
theorem awk1 : callG PP orc 60 12 [.op (0, 0) [], .tv [] tTok ((1 : Int), ((0 : Int), ((1 : Int), ())))] (hT 0 [] 0 6 0 0) = some (.tup [iv 0, iv 0], hT 1 [leafT (1, 0, 1, ())] 1 6 1 1) := by kernel_rfl
theorem awk2 : callG PP orc 60 12 [.op (0, 0) [], .tv [] tTok ((2 : Int), ((1 : Int), ((2 : Int), ())))] (hT 1 [leafT (1, 0, 1, ())] 1 6 1 1) = some (.tup [iv 1, iv 0], hT 2 [leafT (1, 0, 1, ()), leafT (2, 1, 2, ())] 2 6 2 2) := by kernel_rfl
theorem awk3 : callG PP orc 60 13 [.op (0, 0) [], iv 1, iv 4, kv (0, 1) 0 2] (hK [0, 1] 2 [leafT (1, 0, 1, ()), leafT (2, 1, 2, ())] 2 6 2 2) = some (.tup [iv 2, iv 0], hK [0, 1] 3 a3 5 6 5 5) := by kernel_rfl
theorem awk4 : callG PP orc 60 13 [.op (0, 0) [], iv 1, iv 4, kv (0, 1) 0 1] (hK [0] 3 a3 5 6 5 5) = some (.tup [iv 0, iv 15], hK [0] 3 a3 5 6 5 5) := by kernel_rfl
theorem awk5 : callG PP orc 60 12 [.op (0, 0) [], .tv [] tTok ((3 : Int), ((0 : Int), ((0 : Int), ())))] (hT 3 a3 5 6 5 5) = some (.tup [iv 3, iv 0], hT 4 a4 6 6 6 6) := by kernel_rfl
theorem awk6 : callF PP orc 90 40 [.op (0, 0) [], .tv [] tPl pl0, iv 2] (hT 4 a4 6 6 6 6) = some (.tv [] .str [(40 : Int), (83 : Int), (32 : Int), (97 : Int), (32 : Int), (98 : Int), (41 : Int)], hT 4 a4 6 6 6 6) := by kernel_rfl
theorem awk7 : callG PP orc 60 29 [.op (0, 0) []] (hT 4 a4 6 6 6 6) = some (iv 6, hT 4 a4 6 6 6 6) := by kernel_rfl
theorem awk8 : callF PP orc 90 25 [.op (0, 0) [], .tv [] tPl pl0, iv 2] (hT 4 a4 6 6 6 6) = some (bv true, hT 4 a4 6 6 6 6) := by kernel_rfl
theorem awake_ev : E 9 [] [] (bv true) [] := by
 refine ev_of (vc9 _ ?_)
 ((repeat apply Exists.intro); refine And.intro (Need.mk (ev_call plan_run)) ?_)
 ((repeat apply Exists.intro); refine And.intro (Need.mk (ev_run run_m6)) ?_)
 ((repeat apply Exists.intro); refine And.intro (Need.mk (ev_run run_t6)) ?_)
 refine ⟨nofun, fun _ => ?_⟩
 ((repeat apply Exists.intro); refine And.intro (Need.mk (ev_run awk1)) ?_)
 ((repeat apply Exists.intro); refine And.intro (Need.mk (ev_run awk2)) ?_)
 ((repeat apply Exists.intro); refine And.intro (Need.mk (ev_run awk3)) ?_)
 ((repeat apply Exists.intro); refine And.intro (Need.mk (ev_run awk4)) ?_)
 ((repeat apply Exists.intro); refine And.intro (Need.mk (ev_run awk5)) ?_)
 refine ⟨fun _ => ⟨fun _ => ⟨fun _ => ⟨fun _ => ⟨fun _ => ⟨fun _ => ?_, fun h => by simp at h⟩, fun h => by simp at h⟩, fun h => by simp at h⟩, fun h => by simp at h⟩, fun h => by simp at h⟩, fun h => by simp at h⟩
 ((repeat apply Exists.intro); refine And.intro (Need.mk (ev_call awk6)) ?_)
 refine ⟨fun _ => ?_, fun h => by simp at h⟩
 ((repeat apply Exists.intro); refine And.intro (Need.mk (ev_run awk7)) ?_)
 refine ⟨fun _ => ?_, fun h => by simp at h⟩
 ((repeat apply Exists.intro); refine And.intro (Need.mk (ev_call awk8)) ?_)
 exact ⟨rfl, rfl⟩
theorem own_law (x y : Tok) (rule sym : Int) : E 3 [.tv [] tTok x, .tv [] tTok y, iv rule, iv sym] [] (bv true) [] := by
 obtain ⟨x0, x1, x2, ⟨⟩⟩ := x
 obtain ⟨y0, y1, y2, ⟨⟩⟩ := y
 refine ev_of (vc3 x0 x1 x2 y0 y1 y2 rule sym _ ?_)
 ((repeat apply Exists.intro); refine And.intro (Need.mk (awake_ev)) ?_)
 ((repeat apply Exists.intro); refine And.intro (Need.mk (ev_run run_m)) ?_)
 ((repeat apply Exists.intro); refine And.intro (Need.mk (ev_run run_t)) ?_)
 refine ⟨nofun, fun _ => ?_⟩
 ((repeat apply Exists.intro); refine And.intro (Need.mk (ev_run (run_1 (x0, x1, x2, ())))) ?_)
 ((repeat apply Exists.intro); refine And.intro (Need.mk (ev_run (run_2 (x0, x1, x2, ()) (y0, y1, y2, ())))) ?_)
 ((repeat apply Exists.intro); refine And.intro (Need.mk (ev_run (run_n (x0, x1, x2, ()) (y0, y1, y2, ()) rule sym))) ?_)
 refine ⟨⟨by omega⟩, ⟨rfl⟩, ⟨by decide⟩, ?_⟩
 ((repeat apply Exists.intro); refine And.intro (Need.mk (ev_run (run_k (x0, x1, x2, ()) (y0, y1, y2, ()) rule sym))) ?_)
 refine ⟨fun h => by simp at h, fun _ => ?_⟩
 ((repeat apply Exists.intro); refine And.intro (Need.mk (ev_run run_i2)) ?_)
 refine ⟨fun h => by simp at h, fun _ => ?_⟩
 refine ⟨⟨by omega⟩, ⟨rfl⟩, ⟨by decide⟩, ?_⟩
 ((repeat apply Exists.intro); refine And.intro (Need.mk (ev_run (run_b (x0, x1, x2, ()) (y0, y1, y2, ()) rule sym))) ?_)
 refine ⟨fun h => by simp at h, fun _ => ?_⟩
 refine ⟨⟨by omega⟩, ⟨rfl⟩, ⟨by decide⟩, ?_⟩
 refine ⟨fun _ => ?_, fun h => by simp at h⟩
 ((repeat apply Exists.intro); refine And.intro (Need.mk (ev_run (run_k (x0, x1, x2, ()) (y0, y1, y2, ()) rule sym))) ?_)
 ((repeat apply Exists.intro); refine And.intro (Need.mk (ev_run run_i2)) ?_)
 refine ⟨fun _ => ?_, fun h => by simp at h⟩
 ((repeat apply Exists.intro); refine And.intro (Need.mk (ev_run (run_b (x0, x1, x2, ()) (y0, y1, y2, ()) rule sym))) ?_)
 ((repeat apply Exists.intro); refine And.intro (Need.mk (ev_run run_i3)) ?_)
 refine ⟨fun _ => ?_, fun h => by simp at h⟩
 ((repeat apply Exists.intro); refine And.intro (Need.mk (ev_run (run_tok (x0, x1, x2, ()) (y0, y1, y2, ()) rule sym))) ?_)
 refine ⟨fun _ => ?_, fun h => by simp at h⟩
 ((repeat apply Exists.intro); refine And.intro (Need.mk (ev_run (run_rule (x0, x1, x2, ()) (y0, y1, y2, ()) rule sym))) ?_)
 refine ⟨fun _ => ?_, fun h => by simp at h⟩
 ((repeat apply Exists.intro); refine And.intro (Need.mk (ev_run (run_sym (x0, x1, x2, ()) (y0, y1, y2, ()) rule sym))) ?_)
 refine ⟨fun _ => ?_, fun h => by simp at h⟩
 ((repeat apply Exists.intro); refine And.intro (Need.mk (ev_run (run_leaf (x0, x1, x2, ()) (y0, y1, y2, ()) rule sym))) ?_)
 exact ⟨rfl, rfl⟩
end Go.Am.T
