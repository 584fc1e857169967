import Derived.Test.YtoflmffbkdekcaaGreatFL25
namespace Go.Proofs.YtoflmffbkdekcaaGreat
open Go Go.RowKit
set_option linter.unusedVariables false
set_option linter.unusedSimpArgs false
set_option maxRecDepth 100000
def gaT {α:Type} (d:α) (l:List α):Nat→List α
 | 0=>[]
 | n + 1=>gaT d l n ++ [l.getD n d]
theorem gaT_eq {α:Type} (d:α) (l:List α):∀ n,n≤l.length→gaT d l n=l.take n
 | 0,_=>rfl
 | n + 1,h=>by rw [gaT,gaT_eq d l n (by omega),List.take_add_one,List.getElem?_eq_getElem (by omega),List.getD_eq_getElem?_getD,List.getElem?_eq_getElem (by omega)]; rfl
theorem gaT_all {α:Type} (d:α) (l:List α):gaT d l l.length=l:=by rw [gaT_eq d l _ (Nat.le_refl _),List.take_length]
theorem gaT_len {α:Type} (d:α) (l:List α):∀ n,(gaT d l n).length=n
 | 0=>rfl
 | n + 1=>by rw [gaT,List.length_append,gaT_len d l n]; rfl
theorem uRem2 (a:Nat):Value.int .u64 (((a:Nat):Int).tmod 2)=.int .u64 ((a % 2:Nat):Int):=by rw [Int.tmod_eq_emod_of_nonneg (by omega)]; rfl
theorem uQuo2 (a:Nat) (h:a < 18446744073709551616):Value.int .u64 (IntKind.u64.wrap (((a:Nat):Int).tdiv 2))=.int .u64 ((a / 2:Nat):Int):=by
 rw [Int.tdiv_eq_ediv_of_nonneg (by omega),show ((a:Nat):Int) / 2=((a / 2:Nat):Int) by omega,wU64 (by omega)]
end Go.Proofs.YtoflmffbkdekcaaGreat
