/-
  A part of the proof of a law: see the text that states it.
-/
import Derived.Test.YtggaihkjnomflaaGreatDoorLL2
set_option linter.all false
namespace Go.Am.N.L
open Go Go.Am.Pr
set_option maxRecDepth 100000
theorem tkZ (r:List Int):dVZ (123::r)=iyZ 9 (actK (123::r)):=by
 rw [dVZ,if_neg (by decide),if_neg (by decide),if_neg (by decide),if_neg (by decide),if_neg (by decide),if_neg (by decide),if_pos rfl]
theorem pSZ (f k:Nat):lexS f k []=.ok []:=by cases f <;> rfl
theorem qcZ {f k:Nat} {r:List Int} {e:Int} {d:Nat} (h:dVZ r=.error (e,d)) (hr:r≠[]):lexS (f+1) k r=.error (e,k+d):=by
 cases r with
 | nil=>exact absurd rfl hr
 | cons c r=>rw [cMZ,h]
theorem owZ {f k : Nat} {r : List Int} {kd : Int} {t : List Int} {m : Nat} {ok : Bool} (h : dVZ r = .ok (kd, t, m, ok)) (hr : r ≠ []) : lexS (f + 1) k r = match lexS f (k + m) (r.drop m) with
        | .error e=>.error e
        | .ok l=>.ok (if ok then (kd,t,k)::l else l):=by
  cases r with
  | nil=>exact absurd rfl hr
  | cons c r =>
    rw [cMZ,h]
    rfl
theorem oUZ {f k:Nat} {r:List Int} {kd:Int} {t:List Int} (h:dVZ r=.ok (kd,t,r.length,true)) (hr:r≠[]):lexS (f+1) k r=.ok [(kd,t,k)]:=by
 rw [owZ h hr,List.drop_of_length_le (Nat.le_refl _),pSZ]
 rfl
end Go.Am.N.L
