/-
  A part of the proof of a law: see the text that states it.
-/
import Derived.Test.YtggaihkjnomflaaDoorLL2
set_option linter.all false
namespace Go.Am.D.L
open Go Go.Am.Pr
set_option maxRecDepth 100000
theorem tok123 (r:List Int):tokK (123::r)=tokOf 9 (actK (123::r)):=by
 rw [tokK,if_neg (by decide),if_neg (by decide),if_neg (by decide),if_neg (by decide),if_neg (by decide),if_neg (by decide),if_pos rfl]
theorem lexS_nil (f k:Nat):lexS f k []=.ok []:=by cases f <;> rfl
theorem lexS_err {f k:Nat} {r:List Int} {e:Int} {d:Nat} (h:tokK r=.error (e,d)) (hr:r≠[]):lexS (f+1) k r=.error (e,k+d):=by
 cases r with
 | nil=>exact absurd rfl hr
 | cons c r=>rw [lexS_cons,h]
theorem lexS_ok {f k : Nat} {r : List Int} {kd : Int} {t : List Int} {m : Nat} {ok : Bool} (h : tokK r = .ok (kd, t, m, ok)) (hr : r ≠ []) : lexS (f + 1) k r = match lexS f (k + m) (r.drop m) with
        | .error e=>.error e
        | .ok l=>.ok (if ok then (kd,t,k)::l else l):=by
  cases r with
  | nil=>exact absurd rfl hr
  | cons c r =>
    rw [lexS_cons,h]
    rfl
theorem lexS_last {f k:Nat} {r:List Int} {kd:Int} {t:List Int} (h:tokK r=.ok (kd,t,r.length,true)) (hr:r≠[]):lexS (f+1) k r=.ok [(kd,t,k)]:=by
 rw [lexS_ok h hr,List.drop_of_length_le (Nat.le_refl _),lexS_nil]
 rfl
end Go.Am.D.L
