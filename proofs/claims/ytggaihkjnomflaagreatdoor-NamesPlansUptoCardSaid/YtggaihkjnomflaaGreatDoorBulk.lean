/-
  A part of the proof of a law: see the text that states it.
-/
import Derived.Test.YtggaihkjnomflaaGreatDoorAm4
import Derived.Test.YtggaihkjnomflaaGreatDoorRows
set_option linter.all false
namespace Go.Am.N
open Go Go.Proofs.YtggaihkjnomflaaGreatDoor
theorem bulkOK {H:Type}:BulkOK (H:=H) Rows.uptoBulk Rows.uptoBulkAll where
 one d:=by
  cases d with
  | lit l=>cases l <;> simp [Rows.uptoBulk]
  | nil=>simp [Rows.uptoBulk]
  | ptr d=>simp [Rows.uptoBulk]
  | slice elems spare=>simp [Rows.uptoBulk]
  | agg parts=>simp [Rows.uptoBulk]
  | iface t d=>simp [Rows.uptoBulk]
  | map entries=>simp [Rows.uptoBulk]
  | held h=>simp [Rows.uptoBulk]
 str s:=by simp [Rows.uptoBulk]
 slice e r:=by simp only [Rows.uptoBulk];omega
 agg l:=by simp only [Rows.uptoBulk];omega
 nil:=by simp [Rows.uptoBulkAll]
 cons d l:=by simp only [Rows.uptoBulkAll]
theorem bulk_left {H:Type} (ds gs:List (DataW H)):Rows.uptoBulkAll ds≤Rows.uptoBulkAll (ds++gs):=by
 induction ds with
 | nil=>simp [Rows.uptoBulkAll]
 | cons x l ih=>simp only [List.cons_append,Rows.uptoBulkAll];omega
theorem bound {H:Type} {l:List (DataW H)} (hk:Rows.uptoSmall H l=true):Rows.uptoBulkAll l≤1048576:=by
 unfold Rows.uptoSmall at hk
 exact of_decide_eq_true hk
end Go.Am.N
