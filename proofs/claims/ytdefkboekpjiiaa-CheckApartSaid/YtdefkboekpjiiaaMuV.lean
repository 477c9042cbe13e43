/- Tools for what is worked out: rounds, searches, sums. -/
import Derived.Test.YtdefkboekpjiiaaMuA
set_option linter.unusedVariables false
set_option linter.unusedSimpArgs false
namespace Mu

theorem ZiR {c:Prop} [Decidable c] (h:c):decide c=true:=by simpa using h
theorem ZeF {α:Type}{x:Int}{o:Option α}(h:-9223372036854775808≤x∧x≤9223372036854775807):ck (inK .i64 x) o=o:=ZgK (ZiV h.1 h.2)
theorem Zb8 {α:Type} [Inhabited α] {l m:List α}{i:Nat}(h:i<l.length):gi (l++m) i=gi l i:=by
 rw [ZbY (by simp;omega),ZbY h,List.getElem_append_left h]
theorem Zbu {α:Type} [Inhabited α] {l m:List α}{i:Nat}:gi (l++m) (l.length+i)=gi m i:=by
 simp [gi,List.getElem?_append_right]
theorem Zir {α:Type} [Inhabited α] {l:List α}{i:Nat}(h:i<l.length):gi l i∈l:=by rw [ZbY h];simp
end Mu
