/- The evaluator's texts ZPl to ZN8, joined. -/
import Derived.Test.YtjpbnkiifhfofaaGreatEv3
import Derived.Lib.SplitLaws
import Derived.Lib.Join
import Derived.Lib.ItoaNum
import Derived.Lib.Strings
set_option maxHeartbeats 1000000
set_option linter.all false
set_option linter.deprecated false
set_option linter.unusedVariables false
set_option linter.unusedSimpArgs false
set_option linter.unnecessarySimpa false
namespace Go.Evl.Zone
open Go Go.Evl
theorem joinL_lib (sep:List UInt8):∀ l:List (List UInt8),joinL sep l=Lib.join l sep
 | []=>rfl
 | [x]=>by rw [Lib.join_one]; rfl
 | x::y::r=>by
   rw [joinL,joinL_lib sep (y::r),Lib.join_cons,Lib.join_cons]
   simp [Lib.joinTail]
theorem digL_lib:∀ (f n:Nat) (acc:List UInt8),n < 10 ^ f→0 < f→digL f n acc=Lib.decDigits n++acc
 | 0,_,_,_,h=>absurd h (by decide)
 | f+1,n,acc,hn,_=>by
   rw [digL,Lib.decDigits]
   split
   ·simp
   ·rename_i hge
    have hf:0 < f:=by
     cases f with
     | zero=>simp at hn; omega
     | succ f=>omega
    rw [digL_lib f (n / 10) _ (by rw [Nat.pow_succ] at hn; omega) hf]
    simp
theorem itoaL_lib {n:Int} (h0:-9223372036854775808≤n) (h1:n≤9223372036854775807):itoaL n=Lib.itoa n:=by
 unfold itoaL Lib.itoa
 have hp:n.natAbs < 10 ^ 20:=by
  have:(10:Nat) ^ 20=100000000000000000000:=by decide
  omega
 split
 ·rw [digL_lib 20 _ _ hp (by decide)]; simp
 ·rename_i hn
  rw [digL_lib 20 _ _ hp (by decide),show n.natAbs=n.toNat by omega]; simp
theorem splitK_skip (c b:UInt8) (h:b≠c):∀ (k:Nat) (l:List UInt8) (x:List UInt8) (xs:List (List UInt8)),Lib.splitK [c] 0 k l=x::xs→Lib.splitK [c] 0 k (b::l)=(b::x)::xs:=by
 intro k l x xs hx
 cases k with
 | zero=>simp [Lib.splitK] at hx ⊢; exact hx
 | succ k =>
   have hp:([c]:List UInt8).isPrefixOf (b::l)=false:=by simp [List.isPrefixOf,Ne.symm h]
   have hix:Lib.index (b::l) [c]=if Lib.index l [c] == -1 then -1 else Lib.index l [c]+1:=by rw [Lib.index,hp]; simp
   unfold Lib.splitK at hx ⊢
   by_cases hm:Lib.index l [c] = -1
   ·rw [if_pos (by simpa using hm)] at hx
    rw [if_pos (by rw [hix,if_pos (by simpa using hm)]; rfl)]
    simp at hx ⊢; exact hx
   ·have hge:=Lib.index_ge l [c]
    obtain ⟨j,hj⟩:∃ j:Nat,Lib.index l [c]=j:=⟨(Lib.index l [c]).toNat,by omega⟩
    rw [if_neg (by simpa using hm)] at hx
    have hix':Lib.index (b::l) [c]=((j+1:Nat):Int):=by rw [hix,if_neg (by simpa using hm),hj]; omega
    rw [if_neg (by rw [hix']; simp; omega),hix']
    rw [hj] at hx
    simp at hx ⊢
    exact ⟨hx.1,hx.2⟩
theorem splitL_ne (c:UInt8):∀ l:List UInt8,splitL c l≠[]
 | []=>by simp [splitL]
 | b::l=>by
   unfold splitL
   split
   ·simp
   ·split <;> simp
theorem splitL_lib (c:UInt8):∀ l:List UInt8,Lib.splitK [c] 0 (Lib.count l [c]) l=splitL c l
 | []=>by rw [Lib.count_miss (by simp [Lib.index])]; rfl
 | b::l=>by
   by_cases h:b=c
   ·subst h
    rw [Lib.count_cons_eq,Nat.add_comm,Lib.splitK]
    have hix:Lib.index (b::l) [b]=0:=by rw [Lib.index]; simp [List.isPrefixOf]
    rw [if_neg (by rw [hix]; decide),hix,splitL,if_pos rfl]
    simp
    exact splitL_lib b l
   ·rw [Lib.count_cons_ne b c l h,splitL,if_neg h]
    have ih:=splitL_lib c l
    cases hs:splitL c l with
    | nil=>exact absurd hs (splitL_ne c l)
    | cons x xs =>
      rw [hs] at ih
      exact splitK_skip c b h _ l x xs ih
theorem splitB_lib {s p:ByteArray} {c:UInt8} (hp:p.data.toList=[c]):(Lib.splitB p 0 (Lib.countB s p) s).map (·.data.toList)=splitL c s.data.toList:=by
 rw [Lib.splitB_data,Lib.countB,hp,splitL_lib]
end Go.Evl.Zone

namespace Go.Evl.Zone
open Go Go.Evl Go.Evl.Fl
variable {P:Program}
abbrev sv (l:List UInt8):PV:=.val (.string ⟨l.toArray⟩)
theorem ba_append (a b:List UInt8):(⟨a.toArray⟩:ByteArray)++⟨b.toArray⟩=⟨(a++b).toArray⟩:=by
 apply ByteArray.ext
 simp
theorem ba_toList (a:List UInt8):(⟨a.toArray⟩:ByteArray).toList=a:=by
 rw [ByteArray.toList_eq]
theorem evBin_sadd {t:TypeId} {cx cy:Bool} {a b:List UInt8} (h:a.length+b.length < 9223372036854775808):evBin P .add t cx cy (sv a) (sv b)=some (sv (a++b)):=by
 have : evBin P .add t cx cy (sv a) (sv b) = scal P (if ((((⟨a.toArray⟩ : ByteArray).size + (⟨b.toArray⟩ : ByteArray).size : Nat)) : Int) > IntKind.i64.max then unsupported (.resourceLimit "string concatenation: a sum of the lengths that is no int") else pure (.string ((⟨a.toArray⟩ : ByteArray) ++ ⟨b.toArray⟩))) := rfl
 rw [this,if_neg (by simp only [ByteArray.size,List.size_toArray]; show ¬ ((a.length+b.length:Nat):Int) > 9223372036854775807; omega),ba_append]
 rfl
theorem evBin_seql {t:TypeId} {cx cy:Bool} (a b:List UInt8):evBin P .eql t cx cy (sv a) (sv b)=some (.val (.bool (decide (a=b)))):=by
 have:evBin P .eql t cx cy (sv a) (sv b)=some (.val (.bool ((⟨a.toArray⟩:ByteArray).toList == (⟨b.toArray⟩:ByteArray).toList))):=rfl
 rw [this,ba_toList,ba_toList]
 congr 3
 rw [Bool.eq_iff_iff]
 simp
theorem evBin_sneq {t:TypeId} {cx cy:Bool} (a b:List UInt8):evBin P .neq t cx cy (sv a) (sv b)=some (.val (.bool (decide (a≠b)))):=by
 have:evBin P .neq t cx cy (sv a) (sv b)=some (.val (.bool (!((⟨a.toArray⟩:ByteArray).toList == (⟨b.toArray⟩:ByteArray).toList)))):=rfl
 rw [this,ba_toList,ba_toList]
 congr 3
 rw [Bool.eq_iff_iff]
 simp
end Go.Evl.Zone

namespace Go.Evl.Zone
open Go Go.Evl Go.Evl.Fl
variable {P:Program}
def RS.small (q:RS):Bool:=!(decide (q.x > 1099511627776) || decide (q.x < -1099511627776) || decide (q.y > 1099511627776) || decide (q.y < -1099511627776) || decide (q.s > 1099511627776) || decide (q.s < -1099511627776))
end Go.Evl.Zone

namespace Go.Evl.Zone
open Go Go.Evl Go.Evl.Fl
variable {P:Program}
end Go.Evl.Zone

namespace Go.Evl.Zone
open Go Go.Evl Go.Evl.Fl
variable {P:Program}
end Go.Evl.Zone

namespace Go.Evl.Zone
open Go Go.Evl Go.Evl.Fl
variable {P:Program}
end Go.Evl.Zone

namespace Go.Evl.Zone
open Go Go.Evl Go.Evl.Fl
variable {P:Program}
theorem near0:FloatKind.f64.nearest 0=0:=by decide +kernel
end Go.Evl.Zone

namespace Go.Evl.Zone
open Go Go.Evl Go.Evl.Fl
variable {P:Program}
end Go.Evl.Zone

namespace Go.Evl.Zone
open Go Go.Evl Go.Evl.Fl
variable {P:Program}
theorem sv_size (l:List UInt8):(⟨l.toArray⟩:ByteArray).size=l.length:=rfl
theorem sv_slice {H:Heap} {l:List UInt8} {a b:Nat} (h1:a≤b) (h2:b≤l.length):sliceP H 0 (sv l) (some a) (some b) none=some (sv ((l.drop a).take (b - a)),[]):=by
 have e:(⟨l.toArray⟩:ByteArray).extract a b=⟨((l.drop a).take (b - a)).toArray⟩:=by
  apply ByteArray.ext
  simp
 have:sliceP H 0 (sv l) (some a) (some b) none=if 0=0∧a≤b∧b≤l.length then some (.val (.string ((⟨l.toArray⟩:ByteArray).extract a b)),[]) else none:=rfl
 rw [this,if_pos ⟨rfl,h1,h2⟩,e]
end Go.Evl.Zone
