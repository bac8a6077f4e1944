/-
  A part of the proof of a law: see the text that states it.
-/
import Derived.Test.YtggaihkjnomflaaDoorE
import Derived.Test.YtggaihkjnomflaaDoorAm4
import Derived.Test.YtggaihkjnomflaaDoorHead
set_option linter.all false
namespace Go.Am.D
open Go Go.Am.Pr Go.Am.D.L
set_option maxRecDepth 100000
theorem read_is (s:List Int) (o:Gr×Dg) (hl:s.length≤4000) (hs:∀ c∈s,0≤c∧c<256) (h:readK s=o):E 18 [.tv [] .str s] [] (marksA o) []:=h ▸ readR s hl hs
def t1:List Int:=[37,116,111,107,101,110,32,78,32,91,48,45,57,93,43,32,37,37,32,69,32,58,32,69,32,78,32,123,49,125,32,124,32,59]
def t2:List Int:=[37,37,32,69,32,58,32,59,32,70]
def t3:List Int:=[37,108,101,102,116,32,65,32,65,32,37,37]
def o1:Gr×Dg:=(([([78],(([],([48,49,50,51,52,53,54,55,56,57],(true,()))),()))],([],([],([69],([([69],([[69],[78]],([],([49],())))),([69],([],([],([],()))))],()))))),dg0)
theorem r1:E 18 [.tv [] .str t1] [] (marksA o1) []:=read_is t1 o1 (by decide) (by decide) (by kernel_rfl)
theorem r2:E 18 [.tv [] .str t2] [] (marksA (gr0,(14,((1,(11,())),())))) []:=read_is t2 _ (by decide) (by decide) (by kernel_rfl)
theorem r3:E 18 [.tv [] .str t3] [] (marksA (gr0,(15,((1,(9,())),())))) []:=read_is t3 _ (by decide) (by decide) (by kernel_rfl)
end Go.Am.D
