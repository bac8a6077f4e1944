/-
  A part of the proof of a law: see the text that states it.
-/
import Derived.Test.YtcggbplapaeedaaDoorS
set_option linter.all false
namespace Go.Am.R
open Go Go.Am.Pr Go.Am.R.L
set_option maxRecDepth 100000
abbrev kts (r:List L.Mark):List Kt:=r.map kt
def hdk:List Kt→Kt
 | []=>(0,[])
 | m::_=>m
theorem kt_hd (r:List L.Mark):kt (hd r)=hdk (kts r):=by
 cases r with
 | nil=>rw [hd_nil];rfl
 | cons m r=>rw [hd_cons];rfl
theorem hd1 (r:List L.Mark):(hd r).1=(hdk (kts r)).1:=congrArg Prod.fst (kt_hd r)
theorem hd2 (r:List L.Mark):(hd r).2.1=(hdk (kts r)).2:=congrArg Prod.snd (kt_hd r)
end Go.Am.R
