/-
  A part of the proof of a law: see the text that states it.
-/
import Derived.Test.YtgfkdbplahpknaaAm4
import Derived.Test.YtgfkdbplahpknaaOrc
import Derived.KernelRfl
set_option linter.all false
namespace Go.Am.T
open Go
noncomputable abbrev PP := Go.Proofs.Try.prog
def E (f : FuncId) (args : List AV) (h : Heap) (a : AV) (h' : Heap) : Prop := Ev PP orc f args h a h'
noncomputable def sgTab : Nat → List Alt
 | 3 => [((.tv [] .bool (zero .bool)), [])]
 | 9 => [(bv false, [])]
 | 10 => [(.op (1, 0) [], [oT (1, 0) (1, 1), oL (1, 2) 0 [], oA (1, 1) (0, 0) (1, 2) 0 0 0, oM (0, 0) 0 0 0])]
 | 11 => [(.op (1, 0) [], [oM (1, 0) 0 0 0])]
 | 12 => [(.tup [iv 0, iv 0], [oT (0, 0) (0, 1), oA (0, 1) (0, 2) (0, 3) 0 0 0, oM (0, 2) 0 0 0, oL (0, 3) 0 []])]
 | 13 => [(.tup [iv 0, iv 0], [oT (0, 0) (0, 2), oI (0, 1) 0 [], oA (0, 2) (0, 3) (0, 4) 0 0 0, oM (0, 3) 0 0 0, oL (0, 4) 0 []])]
 | 14 => [(kv (1, 0) 0 0, [oI (1, 0) 0 [], same0])]
 | 15 => [(bv false, [same0])]
 | 16 => [(kv (1, 0) 0 0, [oI (1, 0) 0 [], same0])]
 | 17 => [(.tv [] tTok (0, 0, 0, ()), [same0])]
 | 18 => [(iv 0, [same0])]
 | 19 => [(iv 0, [same0])]
 | 23 => [(.tv [] tPl (zero tPl), [])]
 | 25 => [(bv false, [same0])]
 | 29 => [(iv 0, [same0])]
 | 40 => [(.tv [] .str [], [same0])]
 | _ => []
noncomputable def fzTab : Nat → List Key
 | 3 => [(5, 0), (6, 0)]
 | 4 => [(3, 0)]
 | 5 => [(3, 0), (9, 0)]
 | 6 => [(4, 0), (11, 0)]
 | 7 => [(3, 0)]
 | 8 => [(5, 0), (13, 0)]
 | 9 => [(2, 0)]
 | 10 => [(7, 0)]
 | 11 => [(7, 0)]
 | 12 => [(4, 0)]
 | 14 => [(6, 0)]
 | 16 => [(6, 0)]
 | 17 => [(5, 0), (6, 0)]
 | 18 => [(6, 0)]
 | 19 => [(6, 0)]
 | 20 => [(4, 0)]
 | 22 => [(3, 0)]
 | 23 => [(2, 0), (3, 0), (4, 0)]
 | 27 => [(6, 0)]
 | 28 => [(4, 0), (6, 0), (7, 0)]
 | 35 => [(5, 0)]
 | 36 => [(6, 0)]
 | 39 => [(5, 0)]
 | 40 => [(5, 0), (8, 0)]
 | 41 => [(5, 0)]
 | 42 => [(6, 0)]
 | 44 => [(5, 0)]
 | 45 => [(5, 0)]
 | 48 => [(6, 0)]
 | 49 => [(2, 0)]
 | 50 => [(2, 0), (3, 0)]
 | 54 => [(5, 0)]
 | 55 => [(4, 0)]
 | 61 => [(3, 0)]
 | 63 => [(3, 0)]
 | 67 => [(2, 0)]
 | 69 => [(3, 0)]
 | 70 => [(3, 0)]
 | 72 => [(3, 0)]
 | 77 => [(2, 0)]
 | 83 => [(2, 0)]
 | _ => []
noncomputable def sg : Sig := ⟨sgTab, fzTab, fun _ => false⟩
theorem ev_of {f : FuncId} {args : List AV} {h : Heap} {a : AV} {h' : Heap} (e : EvF PP orc f args h fun a' h'' => a' = a ∧ h'' = h') : E f args h a h' := by
 obtain ⟨a', h'', e, rfl, rfl⟩ := e
 exact e
theorem vc_of {f : FuncId} {args : List AV} {h : Heap} {Q : AV → Heap → Prop} {p : Prop} (e : p = vcF PP orc sg f args h Q) (hp : p) : EvF PP orc f args h Q := vcF_ok (sg := sg) (Eq.mp e hp)
end Go.Am.T
