/-
  A part of the proof of a law: see the text that states it.
-/
import Derived.Test.YtpbabncglokikaaDoorL2
import Derived.Test.YtpbabncglokikaaDoorVc3
import Derived.Test.YtpbabncglokikaaDoorAm3
set_option linter.all false
namespace Go.Am.L
open Go Go.Am.Pr
set_option maxRecDepth 100000
theorem lex_is (s : List Int) (o : Except (Int × Nat) (List Mark)) (hl : s.length ≤ 4000) (hs : ∀ c ∈ s, 0 ≤ c ∧ c < 256) (h : glue s [] (lexS s.length 0 s) = o) : E 11 [.tv [] .str s] [] (lexOut s o).1 (lexOut s o).2 := h ▸ lex_ev s hl hs
theorem lx1 : E 11 [(.tv [] .str (List.map (fun v4 => ((BitVec.toNat (UInt8.toBitVec v4)) : Int)) [(97 : UInt8), (32 : UInt8), (123 : UInt8), (49 : UInt8), (123 : UInt8), (50 : UInt8), (125 : UInt8), (125 : UInt8)]))] [] (.tup [.tv [] (.slice TMark) [(1, [97], (1, 1, ()), ()), (9, [49, 123, 50, 125], (1, 3, ()), ()), (0, [], (1, 9, ()), ())], .tv [] TDiag (0, (0, 0, ()), ())]) [] :=
  lex_is [97, 32, 123, 49, 123, 50, 125, 125] (.ok [(1, [97], (1, 1, ()), ()), (9, [49, 123, 50, 125], (1, 3, ()), ())]) (by decide) (by decide) (by kernel_rfl)
theorem lx2 : E 11 [(.tv [] .str (List.map (fun v9 => ((BitVec.toNat (UInt8.toBitVec v9)) : Int)) [(37 : UInt8), (116 : UInt8), (111 : UInt8), (107 : UInt8), (101 : UInt8), (110 : UInt8), (32 : UInt8), (78 : UInt8), (32 : UInt8), (91 : UInt8), (48 : UInt8), (45 : UInt8), (57 : UInt8), (93 : UInt8), (43 : UInt8)]))] [] (.tup [.tv [] (.slice TMark) [(2, [116, 111, 107, 101, 110], (1, 1, ()), ()), (1, [78], (1, 8, ()), ()), (4, [48, 49, 50, 51, 52, 53, 54, 55, 56, 57], (1, 10, ()), ()), (5, [], (1, 15, ()), ()), (0, [], (1, 16, ()), ())], .tv [] TDiag (0, (0, 0, ()), ())]) [] :=
  lex_is [37, 116, 111, 107, 101, 110, 32, 78, 32, 91, 48, 45, 57, 93, 43] (.ok [(2, [116, 111, 107, 101, 110], (1, 1, ()), ()), (1, [78], (1, 8, ()), ()), (4, [48, 49, 50, 51, 52, 53, 54, 55, 56, 57], (1, 10, ()), ()), (5, [], (1, 15, ()), ())]) (by decide) (by decide) (by kernel_rfl)
theorem lx3 : E 11 [(.tv [] .str (List.map (fun v9 => ((BitVec.toNat (UInt8.toBitVec v9)) : Int)) [(91 : UInt8), (98 : UInt8), (45 : UInt8), (97 : UInt8), (93 : UInt8)]))] [] (.tup [.tv [] (.slice TMark) [], .tv [] TDiag (10, (1, 3, ()), ())]) [] :=
  lex_is [91, 98, 45, 97, 93] (.error (10, 2)) (by decide) (by decide) (by kernel_rfl)
theorem awake_ev : E 10 [] [] (.tv [] .bool true) [] := by
  refine ev_of (vc10 _ ⟨_, _, _, _, ⟨lx1⟩, _, _, _, _, ⟨lx2⟩, _, _, _, _, ⟨lx3⟩, ?_⟩)
  refine ⟨nofun, fun _ => ⟨nofun, fun _ => ⟨fun _ => ⟨⟨by decide⟩, fun _ => ⟨fun _ => ⟨⟨by decide⟩, fun _ => ⟨⟨by decide⟩, fun _ => ?_, ?_⟩, ?_⟩, ?_⟩, ?_⟩, ?_⟩⟩⟩
  · exact ⟨by kernel_rfl, rfl⟩
  all_goals exact fun h => absurd h (by decide)
theorem orc_types : orcB PP orc 98 = true := by decide +kernel
theorem orc_fns : fnsB PP orc 85 = true := by decide +kernel
end Go.Am.L
