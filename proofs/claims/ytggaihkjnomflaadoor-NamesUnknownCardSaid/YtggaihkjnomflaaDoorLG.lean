/-
  A part of the proof of a law: see the text that states it.
-/
import Derived.Test.YtggaihkjnomflaaDoorLF
import Derived.Test.YtggaihkjnomflaaDoorVc3
set_option linter.all false
namespace Go.Am.D.L
open Go Go.Am.Pr
set_option maxRecDepth 100000
theorem out_err {i j:Int} {c:Int} {k:Nat} (h:j=i+k):((.tup [.tv [] .str [],.tv [] (.int .i64) 0,.op (1,0) []],[((1,0),⟨⟨W3,(c,(j,()))⟩,[]⟩)]):AV×Heap)=outT i (.error (c,k)):=by subst h;rfl
theorem clsL_cons (f:Nat) (sm:Bool) (last:Int) (has:List Bool) (k:Nat) (c:Int) (r':List Int):clsL (f+1) sm last has k (c::r') =
  if c=10 then .error (11,0) else if c=93 then (if sm=false then .error (10,0) else .ok (memF 0 has,k+1))
   else if c=45 then (if last<0 then .error (10,k) else match r' with
    | []=>.error (11,0)
    | d::_=>if d=10 then .error (11,0) else if d=93 then .error (10,k) else match oneS r' with
     | none=>.error (10,k+1)
     | some (y,m)=>if y<last then .error (10,k) else clsL f sm (-1) (rangeSet has last.toNat (y+1-last).toNat) (k+1+m) (r'.drop m))
   else match oneS (c::r') with
    | none=>.error (10,k)
    | some (y,m)=>clsL f true y (has.set y.toNat true) (k+m) ((c::r').drop m):=by
 rw [clsL.eq_def]
 rfl
theorem class_ev (s:List Int) (i:Int) (n:Nat) (e:i=n) (hn:n<s.length) (hl:s.length≤1000000) (hs:∀ c∈s,0≤c∧c<256) :
  E 67 [.tv [] .str s,.tv [] (.int .i64) i] [] (outT n (clsK (s.drop n))).1 (outT n (clsK (s.drop n))).2:=by
 subst e
 refine ev_out (vc67 s n _ ?_)
 refine ⟨⟨by omega⟩,fun sm last z has=>∃ f k:Nat,z=((n+k:Nat):Int)∧has.length=256∧-1≤last∧last<256∧s.length<n+k+f∧n+k≤s.length∧clsL f sm last has k (s.drop (n+k))=clsK (s.drop n),fun _ _ z _=>(s.length-z).toNat,⟨s.length-n,1,by omega,by simp,by omega,by omega,by omega,by omega,by simp [clsK,List.tail_drop]⟩,?_⟩
 rintro sm last z has ⟨f,k,rfl,hh,hl1,hl2,hf,hk,hv⟩
 refine ⟨fun h=>?_,fun h=>?_⟩
 ·(simp only [decide_eq_true_eq,decide_eq_false_iff_not,Bool.not_eq_true',Bool.not_eq_false'] at h)
  have hn':n+k<s.length:=by omega
  obtain ⟨f,rfl⟩:∃ g,f=g+1:=⟨f-1,by omega⟩
  have hd:=drop_cons (0:Int) hn'
  rw [hd,clsL_cons] at hv
  rw [Int.toNat_natCast]
  refine ⟨⟨by omega⟩,fun h1=>⟨⟨by omega⟩,fun h2=>⟨fun h3=>?_,fun h3=>⟨_,⟨members_ev has hh⟩,⟨by omega⟩,?_⟩⟩,fun h2=>⟨fun h3=>⟨fun h4=>?_,fun h4=>⟨⟨by omega⟩,fun h5=>?_,fun h5=>?_⟩⟩,fun h3=>?_⟩⟩,fun h1=>?_⟩
  all_goals simp only [decide_eq_true_eq,decide_eq_false_iff_not,ne_eq,Decidable.not_not,Bool.not_eq_true',Bool.not_eq_false'] at *
  ·rw [if_neg h1,if_pos h2,if_pos h3] at hv
   rw [← hv];exact out_err (by omega)
  ·rw [if_neg h1,if_pos h2,if_neg (by rw [h3];decide)] at hv
   rw [← hv];exact out_ok (by omega)
  ·rw [if_neg h1,if_neg h2,if_pos h3,if_pos h4] at hv
   rw [← hv];exact out_err (by omega)
  ·have:s.drop (n+k+1)=[]:=List.drop_eq_nil_of_le (by omega)
   rw [if_neg h1,if_neg h2,if_pos h3,if_neg h4,this] at hv
   rw [← hv];exact out_err (by omega)
  ·have hn2:n+k+1<s.length:=by omega
   have e1:Int.toNat (((n+k:Nat):Int)+1)=n+k+1:=by omega
   have hd2:=drop_cons (0:Int) hn2
   rw [if_neg h1,if_neg h2,if_pos h3,if_neg h4] at hv
   rw [e1]
   refine ⟨⟨by omega⟩,⟨by omega⟩,fun h6=>?_,fun h6=>⟨⟨by omega⟩,⟨by omega⟩,fun h7=>?_,fun h7=>⟨⟨by omega⟩,?_⟩⟩⟩
   ·skip
    rw [hd2] at hv
    simp only [if_pos h6] at hv
    rw [← hv];exact out_err (by omega)
   ·skip
    rw [hd2] at hv
    simp only [if_neg h6,if_pos h7] at hv
    rw [← hv];exact out_err (by omega)
   ·skip
    have hone:=one_ev s (((n+k:Nat):Int)+1) (n+k+1) (by omega) hn2 hl
    have hcond:∀ (X:Res),(match s.drop (n+k+1) with
      | []=>.error (11,0)
      | d::_=>if d=10 then .error (11,0) else if d=93 then .error (10,k) else X)=X:=by
     intro X;rw [hd2];simp only [if_neg h6,if_neg h7]
    rw [hcond] at hv
    cases hx:oneS (s.drop (n+k+1)) with
    | none =>
     rw [hx] at hv hone
     simp only [outO] at hone
     simp only at hv
     refine .inl ⟨_,_,_,_,⟨hone⟩,nofun,fun _=>⟨fun _=>?_,nofun⟩⟩
     rw [← hv];exact out_err (by omega)
    | some q =>
     obtain ⟨y,m⟩:=q
     obtain ⟨hy,hm1,hm2,hm3⟩:=oneS_byte (fun c hc=>hs c (List.mem_of_mem_drop hc)) hx
     simp only [List.length_drop] at hm3
     rw [hx] at hv hone
     simp only [outO] at hone
     simp only at hv
     refine .inr ⟨_,_,⟨hone⟩,fun _=>⟨⟨by omega⟩,fun h8=>⟨fun _=>?_,nofun⟩,fun h8=>⟨nofun,fun _=>?_⟩⟩,nofun⟩
     ·skip
      rw [if_pos h8] at hv
      rw [← hv];exact out_err (by omega)
     ·skip
      rw [if_neg h8] at hv
      refine ⟨fun a hs'=>∃ b:Nat,a=b∧hs'.length=256∧(b:Int)≤y+1∧rangeSet hs' b (y+1-b).toNat=rangeSet has last.toNat (y+1-last).toNat,fun a _=>(256-a).toNat,⟨last.toNat,by omega,hh,by omega,by rw [Int.toNat_of_nonneg (by omega)]⟩,?_⟩
      rintro a hs' ⟨b,rfl,hh',hb,hr⟩
      refine ⟨⟨by omega⟩,fun h9=>?_,fun h9=>?_⟩
      ·skip
       refine ⟨⟨by omega⟩,⟨by omega⟩,⟨by omega⟩,⟨by trivial⟩,⟨b+1,by omega,by simpa using hh',by omega,?_⟩,⟨by ((try dsimp only);omega)⟩⟩
       have:(y+1-(b:Int)).toNat=(y+1-((b+1:Nat):Int)).toNat+1:=by omega
       rw [this,rangeSet] at hr
       rw [Int.toNat_natCast];exact hr
      ·skip
       have:(y+1-(b:Int)).toNat=0:=by omega
       rw [this,rangeSet] at hr
       refine ⟨⟨by trivial⟩,⟨f,k+1+m,by omega,hh',by omega,by omega,by omega,by omega,?_⟩,⟨by ((try dsimp only);omega)⟩⟩
       rw [← hv,← hr,List.drop_drop]
       congr 1;congr 1;omega
  ·rw [if_neg h1,if_neg h2,if_neg h3,← hd] at hv
   have hone:=one_ev s ((n+k:Nat):Int) (n+k) rfl hn' hl
   cases hx:oneS (s.drop (n+k)) with
   | none =>
    rw [hx] at hv hone
    simp only [outO] at hone
    simp only at hv
    refine .inl ⟨_,_,_,_,⟨hone⟩,fun _=>?_,nofun⟩
    rw [← hv];exact out_err (by omega)
   | some q =>
    obtain ⟨y,m⟩:=q
    obtain ⟨hy,hm1,hm2,hm3⟩:=oneS_byte (fun c hc=>hs c (List.mem_of_mem_drop hc)) hx
    simp only [List.length_drop] at hm3
    rw [hx] at hv hone
    simp only [outO] at hone
    simp only at hv
    refine .inr ⟨_,_,⟨hone⟩,nofun,fun _=>⟨⟨by omega⟩,⟨by omega⟩,⟨by omega⟩,⟨by trivial⟩,⟨f,k+m,by omega,by simpa using hh,by omega,by omega,by omega,by omega,?_⟩,⟨by ((try dsimp only);omega)⟩⟩⟩
    rw [← hv,List.drop_drop,Nat.add_assoc]
  ·rw [if_pos h1] at hv
   rw [← hv];exact out_err (by omega)
 ·(simp only [decide_eq_true_eq,decide_eq_false_iff_not,Bool.not_eq_true',Bool.not_eq_false'] at h)
  have:s.drop (n+k)=[]:=List.drop_eq_nil_of_le (by omega)
  rw [this] at hv
  have:clsL f sm last has k []=.error (11,0):=by cases f <;> rfl
  rw [this] at hv
  rw [← hv];exact out_err (by omega)
end Go.Am.D.L
