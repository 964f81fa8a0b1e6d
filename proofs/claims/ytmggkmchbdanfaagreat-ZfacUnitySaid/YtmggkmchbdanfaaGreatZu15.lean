/- What a proof needs: rules of walking, mirrors of functions and their plain laws. No condition. -/
import Derived.Test.YtmggkmchbdanfaaGreatZu9
import Derived.Test.YtmggkmchbdanfaaGreatZu10
import Derived.Test.YtmggkmchbdanfaaGreatZu11
import Derived.Test.YtmggkmchbdanfaaGreatZu12
import Derived.Test.YtmggkmchbdanfaaGreatZu13
import Derived.Test.YtmggkmchbdanfaaGreatZu14
section
set_option linter.unusedVariables false
set_option linter.unusedSimpArgs false
set_option maxRecDepth 100000
namespace Go.Proofs.YtmggkmchbdanfaaGreat
def lk {α β : Type} [DecidableEq α] (f : α -> Option β) : List (α × β) -> α -> Option β
  | [], a => f a
  | e :: r, a => if a = e.1 then some e.2 else lk f r a
theorem lk_le {α β : Type} [DecidableEq α] {f : α -> Option β} : ∀ (l : List (α × β)) (a : α), (∀ e, e ∈ l -> f e.1 = some e.2) -> Le (lk f l a) (f a)
  | [], _, _ => le_rfl
  | e :: r, a, h => fun v hv => by
    unfold lk at hv
    split at hv
    · next he => cases hv; rw [he]; exact h e (List.mem_cons_self ..)
    · exact lk_le r a (fun x hx => h x (List.mem_cons_of_mem _ hx)) v hv
def FU_S (x : List Int × Int × List Int) : Option (List (List Int) × Int) := F_ffac_Split 4000000 x.1 x.2.1 x.2.2
def FU_L (x : List Zr × List (List Int) × Int × Int) : Option (List (List Zr) × Int) := F_hensel_Lift 4000000 x.1 x.2.1 x.2.2.1 x.2.2.2
theorem FU_S_eq (a : List Int) (p : Int) (d : List Int) : FU_S (a, p, d) = F_ffac_Split 4000000 a p d := by unfold FU_S; exact rfl
theorem FU_L_eq (a : List Zr) (l : List (List Int)) (p k : Int) : FU_L (a, l, p, k) = F_hensel_Lift 4000000 a l p k := by unfold FU_L; exact rfl
def tbS : List ((List Int × Int × List Int) × (List (List Int) × Int)) := [(([4, 0, 0, 0, 0, 0, 1], 5, []), ([[1, 1], [4, 1], [1, 1, 1], [1, 4, 1]], 0)), (([6, 0, 0, 0, 0, 0, 1], 7, []), ([[1, 1], [2, 1], [3, 1], [4, 1], [5, 1], [6, 1]], 0)), (([10, 0, 0, 0, 0, 0, 1], 11, []), ([[1, 1], [10, 1], [1, 1, 1], [1, 10, 1]], 0)), (([12, 0, 0, 0, 0, 0, 1], 13, []), ([[1, 1], [3, 1], [4, 1], [9, 1], [10, 1], [12, 1]], 0)), (([16, 0, 0, 0, 0, 0, 1], 17, []), ([[1, 1], [16, 1], [1, 1, 1], [1, 16, 1]], 0)), (([1, 0, 0, 0, 0, 0, 0, 1], 2, []), ([[1, 1], [1, 1, 0, 1], [1, 0, 1, 1]], 0)), (([2, 0, 0, 0, 0, 0, 0, 1], 3, []), ([[2, 1], [1, 1, 1, 1, 1, 1, 1]], 0)), (([4, 0, 0, 0, 0, 0, 0, 1], 5, []), ([[4, 1], [1, 1, 1, 1, 1, 1, 1]], 0)), (([10, 0, 0, 0, 0, 0, 0, 1], 11, []), ([[10, 1], [10, 4, 5, 1], [10, 6, 7, 1]], 0)), (([12, 0, 0, 0, 0, 0, 0, 1], 13, []), ([[12, 1], [1, 3, 1], [1, 5, 1], [1, 6, 1]], 0)), (([2, 0, 0, 0, 0, 0, 0, 0, 1], 3, []), ([[1, 1], [2, 1], [1, 0, 1], [2, 1, 1], [2, 2, 1]], 0)), (([4, 0, 0, 0, 0, 0, 0, 0, 1], 5, []), ([[1, 1], [2, 1], [3, 1], [4, 1], [2, 0, 1], [3, 0, 1]], 0)), (([6, 0, 0, 0, 0, 0, 0, 0, 1], 7, []), ([[1, 1], [6, 1], [1, 0, 1], [1, 3, 1], [1, 4, 1]], 0)), (([10, 0, 0, 0, 0, 0, 0, 0, 1], 11, []), ([[1, 1], [10, 1], [1, 0, 1], [10, 3, 1], [10, 8, 1]], 0)), (([12, 0, 0, 0, 0, 0, 0, 0, 1], 13, []), ([[1, 1], [5, 1], [8, 1], [12, 1], [5, 0, 1], [8, 0, 1]], 0)), (([1, 0, 0, 0, 0, 0, 0, 0, 0, 1], 2, []), ([[1, 1], [1, 1, 1], [1, 0, 0, 1, 0, 0, 1]], 0)), (([4, 0, 0, 0, 0, 0, 0, 0, 0, 1], 5, []), ([[4, 1], [1, 1, 1], [1, 0, 0, 1, 0, 0, 1]], 0)), (([6, 0, 0, 0, 0, 0, 0, 0, 0, 1], 7, []), ([[3, 1], [5, 1], [6, 1], [3, 0, 0, 1], [5, 0, 0, 1]], 0)), (([10, 0, 0, 0, 0, 0, 0, 0, 0, 1], 11, []), ([[10, 1], [1, 1, 1], [1, 0, 0, 1, 0, 0, 1]], 0)), (([12, 0, 0, 0, 0, 0, 0, 0, 0, 1], 13, []), ([[4, 1], [10, 1], [12, 1], [4, 0, 0, 1], [10, 0, 0, 1]], 0)), (([2, 0, 0, 0, 0, 0, 0, 0, 0, 0, 1], 3, []), ([[1, 1], [2, 1], [1, 1, 1, 1, 1], [1, 2, 1, 2, 1]], 0)), (([6, 0, 0, 0, 0, 0, 0, 0, 0, 0, 1], 7, []), ([[1, 1], [6, 1], [1, 1, 1, 1, 1], [1, 6, 1, 6, 1]], 0)), (([10, 0, 0, 0, 0, 0, 0, 0, 0, 0, 1], 11, []), ([[1, 1], [2, 1], [3, 1], [4, 1], [5, 1], [6, 1], [7, 1], [8, 1], [9, 1], [10, 1]], 0)), (([12, 0, 0, 0, 0, 0, 0, 0, 0, 0, 1], 13, []), ([[1, 1], [12, 1], [1, 1, 1, 1, 1], [1, 12, 1, 12, 1]], 0)), (([16, 0, 0, 0, 0, 0, 0, 0, 0, 0, 1], 17, []), ([[1, 1], [16, 1], [1, 1, 1, 1, 1], [1, 16, 1, 16, 1]], 0)), (([1, 0, 0, 0, 0, 0, 0, 0, 0, 0, 0, 1], 2, []), ([[1, 1], [1, 1, 1, 1, 1, 1, 1, 1, 1, 1, 1]], 0)), (([2, 0, 0, 0, 0, 0, 0, 0, 0, 0, 0, 1], 3, []), ([[2, 1], [2, 2, 1, 2, 0, 1], [2, 0, 1, 2, 1, 1]], 0)), (([4, 0, 0, 0, 0, 0, 0, 0, 0, 0, 0, 1], 5, []), ([[4, 1], [4, 1, 1, 4, 2, 1], [4, 3, 1, 4, 4, 1]], 0)), (([6, 0, 0, 0, 0, 0, 0, 0, 0, 0, 0, 1], 7, []), ([[6, 1], [1, 1, 1, 1, 1, 1, 1, 1, 1, 1, 1]], 0)), (([12, 0, 0, 0, 0, 0, 0, 0, 0, 0, 0, 1], 13, []), ([[12, 1], [1, 1, 1, 1, 1, 1, 1, 1, 1, 1, 1]], 0)), (([4, 0, 0, 0, 0, 0, 0, 0, 0, 0, 0, 0, 1], 5, []), ([[1, 1], [2, 1], [3, 1], [4, 1], [1, 1, 1], [4, 2, 1], [4, 3, 1], [1, 4, 1]], 0)), (([6, 0, 0, 0, 0, 0, 0, 0, 0, 0, 0, 0, 1], 7, []), ([[1, 1], [2, 1], [3, 1], [4, 1], [5, 1], [6, 1], [1, 0, 1], [2, 0, 1], [4, 0, 1]], 0)), (([10, 0, 0, 0, 0, 0, 0, 0, 0, 0, 0, 0, 1], 11, []), ([[1, 1], [10, 1], [1, 0, 1], [1, 1, 1], [1, 5, 1], [1, 6, 1], [1, 10, 1]], 0)), (([12, 0, 0, 0, 0, 0, 0, 0, 0, 0, 0, 0, 1], 13, []), ([[1, 1], [2, 1], [3, 1], [4, 1], [5, 1], [6, 1], [7, 1], [8, 1], [9, 1], [10, 1], [11, 1], [12, 1]], 0)), (([16, 0, 0, 0, 0, 0, 0, 0, 0, 0, 0, 0, 1], 17, []), ([[1, 1], [4, 1], [13, 1], [16, 1], [1, 1, 1], [16, 4, 1], [16, 13, 1], [1, 16, 1]], 0)), (([1, 0, 0, 0, 0, 0, 0, 0, 0, 0, 0, 0, 0, 1], 2, []), ([[1, 1], [1, 1, 1, 1, 1, 1, 1, 1, 1, 1, 1, 1, 1]], 0)), (([2, 0, 0, 0, 0, 0, 0, 0, 0, 0, 0, 0, 0, 1], 3, []), ([[2, 1], [2, 2, 0, 1], [2, 0, 1, 1], [2, 1, 1, 1], [2, 2, 2, 1]], 0)), (([4, 0, 0, 0, 0, 0, 0, 0, 0, 0, 0, 0, 0, 1], 5, []), ([[4, 1], [1, 1, 4, 1, 1], [1, 2, 1, 2, 1], [1, 3, 0, 3, 1]], 0)), (([6, 0, 0, 0, 0, 0, 0, 0, 0, 0, 0, 0, 0, 1], 7, []), ([[6, 1], [1, 1, 1, 1, 1, 1, 1, 1, 1, 1, 1, 1, 1]], 0)), (([10, 0, 0, 0, 0, 0, 0, 0, 0, 0, 0, 0, 0, 1], 11, []), ([[10, 1], [1, 1, 1, 1, 1, 1, 1, 1, 1, 1, 1, 1, 1]], 0)), (([2, 0, 0, 0, 0, 0, 0, 0, 0, 0, 0, 0, 0, 0, 1], 3, []), ([[1, 1], [2, 1], [1, 1, 1, 1, 1, 1, 1], [1, 2, 1, 2, 1, 2, 1]], 0)), (([4, 0, 0, 0, 0, 0, 0, 0, 0, 0, 0, 0, 0, 0, 1], 5, []), ([[1, 1], [4, 1], [1, 1, 1, 1, 1, 1, 1], [1, 4, 1, 4, 1, 4, 1]], 0)), (([10, 0, 0, 0, 0, 0, 0, 0, 0, 0, 0, 0, 0, 0, 1], 11, []), ([[1, 1], [10, 1], [1, 6, 4, 1], [10, 4, 5, 1], [1, 4, 6, 1], [10, 6, 7, 1]], 0)), (([12, 0, 0, 0, 0, 0, 0, 0, 0, 0, 0, 0, 0, 0, 1], 13, []), ([[1, 1], [12, 1], [1, 3, 1], [1, 5, 1], [1, 6, 1], [1, 7, 1], [1, 8, 1], [1, 10, 1]], 0)), (([16, 0, 0, 0, 0, 0, 0, 0, 0, 0, 0, 0, 0, 0, 1], 17, []), ([[1, 1], [16, 1], [1, 1, 1, 1, 1, 1, 1], [1, 16, 1, 16, 1, 16, 1]], 0)), (([1, 0, 0, 0, 0, 0, 0, 0, 0, 0, 0, 0, 0, 0, 0, 1], 2, []), ([[1, 1], [1, 1, 1], [1, 1, 0, 0, 1], [1, 0, 0, 1, 1], [1, 1, 1, 1, 1]], 0)), (([6, 0, 0, 0, 0, 0, 0, 0, 0, 0, 0, 0, 0, 0, 0, 1], 7, []), ([[3, 1], [5, 1], [6, 1], [1, 1, 1, 1, 1], [2, 1, 4, 2, 1], [4, 1, 2, 4, 1]], 0)), (([10, 0, 0, 0, 0, 0, 0, 0, 0, 0, 0, 0, 0, 0, 0, 1], 11, []), ([[2, 1], [6, 1], [7, 1], [8, 1], [10, 1], [1, 1, 1], [9, 3, 1], [5, 4, 1], [3, 5, 1], [4, 9, 1]], 0)), (([12, 0, 0, 0, 0, 0, 0, 0, 0, 0, 0, 0, 0, 0, 0, 1], 13, []), ([[4, 1], [10, 1], [12, 1], [1, 1, 1, 1, 1], [3, 1, 9, 3, 1], [9, 1, 3, 9, 1]], 0)), (([16, 0, 0, 0, 0, 0, 0, 0, 0, 0, 0, 0, 0, 0, 0, 1], 17, []), ([[16, 1], [1, 1, 1], [1, 1, 1, 1, 1], [1, 11, 15, 5, 1], [1, 5, 15, 11, 1]], 0)), (([2, 0, 0, 0, 0, 0, 0, 0, 0, 0, 0, 0, 0, 0, 0, 0, 1], 3, []), ([[1, 1], [2, 1], [1, 0, 1], [2, 1, 1], [2, 2, 1], [2, 0, 1, 0, 1], [2, 0, 2, 0, 1]], 0)), (([4, 0, 0, 0, 0, 0, 0, 0, 0, 0, 0, 0, 0, 0, 0, 0, 1], 5, []), ([[1, 1], [2, 1], [3, 1], [4, 1], [2, 0, 1], [3, 0, 1], [2, 0, 0, 0, 1], [3, 0, 0, 0, 1]], 0)), (([6, 0, 0, 0, 0, 0, 0, 0, 0, 0, 0, 0, 0, 0, 0, 0, 1], 7, []), ([[1, 1], [6, 1], [1, 0, 1], [6, 1, 1], [1, 3, 1], [6, 3, 1], [1, 4, 1], [6, 4, 1], [6, 6, 1]], 0)), (([10, 0, 0, 0, 0, 0, 0, 0, 0, 0, 0, 0, 0, 0, 0, 0, 1], 11, []), ([[1, 1], [10, 1], [1, 0, 1], [10, 3, 1], [10, 8, 1], [10, 0, 3, 0, 1], [10, 0, 8, 0, 1]], 0)), (([12, 0, 0, 0, 0, 0, 0, 0, 0, 0, 0, 0, 0, 0, 0, 0, 1], 13, []), ([[1, 1], [5, 1], [8, 1], [12, 1], [5, 0, 1], [8, 0, 1], [5, 0, 0, 0, 1], [8, 0, 0, 0, 1]], 0))]
def tbL : List ((List Zr × List (List Int) × Int × Int) × (List (List Zr) × Int)) := [(([(true, [1]), (false, []), (false, []), (false, []), (false, []), (false, []), (false, [1])], [[1, 1], [4, 1], [1, 1, 1], [1, 4, 1]], 5, 4), ([[(false, [1]), (false, [1])], [(false, [624]), (false, [1])], [(false, [1]), (false, [1]), (false, [1])], [(false, [1]), (false, [624]), (false, [1])]], 0)), (([(true, [1]), (false, []), (false, []), (false, []), (false, []), (false, []), (false, []), (false, [1])], [[2, 1], [1, 1, 1, 1, 1, 1, 1]], 3, 6), ([[(false, [728]), (false, [1])], [(false, [1]), (false, [1]), (false, [1]), (false, [1]), (false, [1]), (false, [1]), (false, [1])]], 0)), (([(true, [1]), (false, []), (false, []), (false, []), (false, []), (false, []), (false, []), (false, []), (false, [1])], [[1, 1], [2, 1], [1, 0, 1], [2, 1, 1], [2, 2, 1]], 3, 7), ([[(false, [1]), (false, [1])], [(false, [2186]), (false, [1])], [(false, [1]), (false, []), (false, [1])], [(false, [2186]), (false, [508]), (false, [1])], [(false, [2186]), (false, [1679]), (false, [1])]], 0)), (([(true, [1]), (false, []), (false, []), (false, []), (false, []), (false, []), (false, []), (false, []), (false, []), (false, [1])], [[1, 1], [1, 1, 1], [1, 0, 0, 1, 0, 0, 1]], 2, 12), ([[(false, [4095]), (false, [1])], [(false, [1]), (false, [1]), (false, [1])], [(false, [1]), (false, []), (false, []), (false, [1]), (false, []), (false, []), (false, [1])]], 0)), (([(true, [1]), (false, []), (false, []), (false, []), (false, []), (false, []), (false, []), (false, []), (false, []), (false, []), (false, [1])], [[1, 1], [2, 1], [1, 1, 1, 1, 1], [1, 2, 1, 2, 1]], 3, 8), ([[(false, [1]), (false, [1])], [(false, [6560]), (false, [1])], [(false, [1]), (false, [1]), (false, [1]), (false, [1]), (false, [1])], [(false, [1]), (false, [6560]), (false, [1]), (false, [6560]), (false, [1])]], 0)), (([(true, [1]), (false, []), (false, []), (false, []), (false, []), (false, []), (false, []), (false, []), (false, []), (false, []), (false, []), (false, [1])], [[1, 1], [1, 1, 1, 1, 1, 1, 1, 1, 1, 1, 1]], 2, 14), ([[(false, [16383]), (false, [1])], [(false, [1]), (false, [1]), (false, [1]), (false, [1]), (false, [1]), (false, [1]), (false, [1]), (false, [1]), (false, [1]), (false, [1]), (false, [1])]], 0)), (([(true, [1]), (false, []), (false, []), (false, []), (false, []), (false, []), (false, []), (false, []), (false, []), (false, []), (false, []), (false, []), (false, [1])], [[1, 1], [10, 1], [1, 0, 1], [1, 1, 1], [1, 5, 1], [1, 6, 1], [1, 10, 1]], 11, 5), ([[(false, [1]), (false, [1])], [(false, [161050]), (false, [1])], [(false, [1]), (false, []), (false, [1])], [(false, [1]), (false, [1]), (false, [1])], [(false, [1]), (false, [26042]), (false, [1])], [(false, [1]), (false, [135009]), (false, [1])], [(false, [1]), (false, [161050]), (false, [1])]], 0)), (([(true, [1]), (false, []), (false, []), (false, []), (false, []), (false, []), (false, []), (false, []), (false, []), (false, []), (false, []), (false, []), (false, []), (false, [1])], [[1, 1], [1, 1, 1, 1, 1, 1, 1, 1, 1, 1, 1, 1, 1]], 2, 16), ([[(false, [65535]), (false, [1])], [(false, [1]), (false, [1]), (false, [1]), (false, [1]), (false, [1]), (false, [1]), (false, [1]), (false, [1]), (false, [1]), (false, [1]), (false, [1]), (false, [1]), (false, [1])]], 0)), (([(true, [1]), (false, []), (false, []), (false, []), (false, []), (false, []), (false, []), (false, []), (false, []), (false, []), (false, []), (false, []), (false, []), (false, []), (false, [1])], [[1, 1], [2, 1], [1, 1, 1, 1, 1, 1, 1], [1, 2, 1, 2, 1, 2, 1]], 3, 11), ([[(false, [1]), (false, [1])], [(false, [177146]), (false, [1])], [(false, [1]), (false, [1]), (false, [1]), (false, [1]), (false, [1]), (false, [1]), (false, [1])], [(false, [1]), (false, [177146]), (false, [1]), (false, [177146]), (false, [1]), (false, [177146]), (false, [1])]], 0)), (([(true, [1]), (false, []), (false, []), (false, []), (false, []), (false, []), (false, []), (false, []), (false, []), (false, []), (false, []), (false, []), (false, []), (false, []), (false, []), (false, [1])], [[1, 1], [1, 1, 1], [1, 1, 0, 0, 1], [1, 0, 0, 1, 1], [1, 1, 1, 1, 1]], 2, 18), ([[(false, [262143]), (false, [1])], [(false, [1]), (false, [1]), (false, [1])], [(false, [1]), (false, [56723]), (false, [262142]), (false, [205420]), (false, [1])], [(false, [1]), (false, [205420]), (false, [262142]), (false, [56723]), (false, [1])], [(false, [1]), (false, [1]), (false, [1]), (false, [1]), (false, [1])]], 0)), (([(true, [1]), (false, []), (false, []), (false, []), (false, []), (false, []), (false, []), (false, []), (false, []), (false, []), (false, []), (false, []), (false, []), (false, []), (false, []), (false, []), (false, [1])], [[1, 1], [2, 1], [1, 0, 1], [2, 1, 1], [2, 2, 1], [2, 0, 1, 0, 1], [2, 0, 2, 0, 1]], 3, 12), ([[(false, [1]), (false, [1])], [(false, [531440]), (false, [1])], [(false, [1]), (false, []), (false, [1])], [(false, [531440]), (false, [356989]), (false, [1])], [(false, [531440]), (false, [174452]), (false, [1])], [(false, [531440]), (false, []), (false, [356989]), (false, []), (false, [1])], [(false, [531440]), (false, []), (false, [174452]), (false, []), (false, [1])]], 0))]
def H_ffac_Split (fu : Nat) (a : List Int) (p : Int) (d : List Int) : Option (List (List Int) × Int) := if fu = 4000000 then lk FU_S tbS (a, p, d) else none
def H_hensel_Lift (fu : Nat) (a : List Zr) (l : List (List Int)) (p k : Int) : Option (List (List Zr) × Int) := if fu = 4000000 then lk FU_L tbL (a, l, p, k) else none
def H_law16_awake (fu : Nat) : Option Bool := if fu = 4000000 then some true else none
theorem H_law16_awake_le {fu : Nat} (hf : 3000000 <= fu) : Le (H_law16_awake fu) (M_law16_awake fu) := by
  unfold H_law16_awake
  split
  · next h =>
    subst h
    rw [e_aw]
    exact le_rfl
  · exact le_none
theorem tbS_ok : ∀ e, e ∈ tbS -> FU_S e.1 = some e.2 := by
  unfold tbS
  refine List.forall_mem_cons.2 ⟨(FU_S_eq _ _ _).trans sp_6_5, ?_⟩
  refine List.forall_mem_cons.2 ⟨(FU_S_eq _ _ _).trans sp_6_7, ?_⟩
  refine List.forall_mem_cons.2 ⟨(FU_S_eq _ _ _).trans sp_6_11, ?_⟩
  refine List.forall_mem_cons.2 ⟨(FU_S_eq _ _ _).trans sp_6_13, ?_⟩
  refine List.forall_mem_cons.2 ⟨(FU_S_eq _ _ _).trans sp_6_17, ?_⟩
  refine List.forall_mem_cons.2 ⟨(FU_S_eq _ _ _).trans sp_7_2, ?_⟩
  refine List.forall_mem_cons.2 ⟨(FU_S_eq _ _ _).trans sp_7_3, ?_⟩
  refine List.forall_mem_cons.2 ⟨(FU_S_eq _ _ _).trans sp_7_5, ?_⟩
  refine List.forall_mem_cons.2 ⟨(FU_S_eq _ _ _).trans sp_7_11, ?_⟩
  refine List.forall_mem_cons.2 ⟨(FU_S_eq _ _ _).trans sp_7_13, ?_⟩
  refine List.forall_mem_cons.2 ⟨(FU_S_eq _ _ _).trans sp_8_3, ?_⟩
  refine List.forall_mem_cons.2 ⟨(FU_S_eq _ _ _).trans sp_8_5, ?_⟩
  refine List.forall_mem_cons.2 ⟨(FU_S_eq _ _ _).trans sp_8_7, ?_⟩
  refine List.forall_mem_cons.2 ⟨(FU_S_eq _ _ _).trans sp_8_11, ?_⟩
  refine List.forall_mem_cons.2 ⟨(FU_S_eq _ _ _).trans sp_8_13, ?_⟩
  refine List.forall_mem_cons.2 ⟨(FU_S_eq _ _ _).trans sp_9_2, ?_⟩
  refine List.forall_mem_cons.2 ⟨(FU_S_eq _ _ _).trans sp_9_5, ?_⟩
  refine List.forall_mem_cons.2 ⟨(FU_S_eq _ _ _).trans sp_9_7, ?_⟩
  refine List.forall_mem_cons.2 ⟨(FU_S_eq _ _ _).trans sp_9_11, ?_⟩
  refine List.forall_mem_cons.2 ⟨(FU_S_eq _ _ _).trans sp_9_13, ?_⟩
  refine List.forall_mem_cons.2 ⟨(FU_S_eq _ _ _).trans sp_10_3, ?_⟩
  refine List.forall_mem_cons.2 ⟨(FU_S_eq _ _ _).trans sp_10_7, ?_⟩
  refine List.forall_mem_cons.2 ⟨(FU_S_eq _ _ _).trans sp_10_11, ?_⟩
  refine List.forall_mem_cons.2 ⟨(FU_S_eq _ _ _).trans sp_10_13, ?_⟩
  refine List.forall_mem_cons.2 ⟨(FU_S_eq _ _ _).trans sp_10_17, ?_⟩
  refine List.forall_mem_cons.2 ⟨(FU_S_eq _ _ _).trans sp_11_2, ?_⟩
  refine List.forall_mem_cons.2 ⟨(FU_S_eq _ _ _).trans sp_11_3, ?_⟩
  refine List.forall_mem_cons.2 ⟨(FU_S_eq _ _ _).trans sp_11_5, ?_⟩
  refine List.forall_mem_cons.2 ⟨(FU_S_eq _ _ _).trans sp_11_7, ?_⟩
  refine List.forall_mem_cons.2 ⟨(FU_S_eq _ _ _).trans sp_11_13, ?_⟩
  refine List.forall_mem_cons.2 ⟨(FU_S_eq _ _ _).trans sp_12_5, ?_⟩
  refine List.forall_mem_cons.2 ⟨(FU_S_eq _ _ _).trans sp_12_7, ?_⟩
  refine List.forall_mem_cons.2 ⟨(FU_S_eq _ _ _).trans sp_12_11, ?_⟩
  refine List.forall_mem_cons.2 ⟨(FU_S_eq _ _ _).trans sp_12_13, ?_⟩
  refine List.forall_mem_cons.2 ⟨(FU_S_eq _ _ _).trans sp_12_17, ?_⟩
  refine List.forall_mem_cons.2 ⟨(FU_S_eq _ _ _).trans sp_13_2, ?_⟩
  refine List.forall_mem_cons.2 ⟨(FU_S_eq _ _ _).trans sp_13_3, ?_⟩
  refine List.forall_mem_cons.2 ⟨(FU_S_eq _ _ _).trans sp_13_5, ?_⟩
  refine List.forall_mem_cons.2 ⟨(FU_S_eq _ _ _).trans sp_13_7, ?_⟩
  refine List.forall_mem_cons.2 ⟨(FU_S_eq _ _ _).trans sp_13_11, ?_⟩
  refine List.forall_mem_cons.2 ⟨(FU_S_eq _ _ _).trans sp_14_3, ?_⟩
  refine List.forall_mem_cons.2 ⟨(FU_S_eq _ _ _).trans sp_14_5, ?_⟩
  refine List.forall_mem_cons.2 ⟨(FU_S_eq _ _ _).trans sp_14_11, ?_⟩
  refine List.forall_mem_cons.2 ⟨(FU_S_eq _ _ _).trans sp_14_13, ?_⟩
  refine List.forall_mem_cons.2 ⟨(FU_S_eq _ _ _).trans sp_14_17, ?_⟩
  refine List.forall_mem_cons.2 ⟨(FU_S_eq _ _ _).trans sp_15_2, ?_⟩
  refine List.forall_mem_cons.2 ⟨(FU_S_eq _ _ _).trans sp_15_7, ?_⟩
  refine List.forall_mem_cons.2 ⟨(FU_S_eq _ _ _).trans sp_15_11, ?_⟩
  refine List.forall_mem_cons.2 ⟨(FU_S_eq _ _ _).trans sp_15_13, ?_⟩
  refine List.forall_mem_cons.2 ⟨(FU_S_eq _ _ _).trans sp_15_17, ?_⟩
  refine List.forall_mem_cons.2 ⟨(FU_S_eq _ _ _).trans sp_16_3, ?_⟩
  refine List.forall_mem_cons.2 ⟨(FU_S_eq _ _ _).trans sp_16_5, ?_⟩
  refine List.forall_mem_cons.2 ⟨(FU_S_eq _ _ _).trans sp_16_7, ?_⟩
  refine List.forall_mem_cons.2 ⟨(FU_S_eq _ _ _).trans sp_16_11, ?_⟩
  refine List.forall_mem_cons.2 ⟨(FU_S_eq _ _ _).trans sp_16_13, ?_⟩
  exact fun e he => by cases he
theorem tbL_ok : ∀ e, e ∈ tbL -> FU_L e.1 = some e.2 := by
  unfold tbL
  refine List.forall_mem_cons.2 ⟨(FU_L_eq _ _ _ _).trans li_6, ?_⟩
  refine List.forall_mem_cons.2 ⟨(FU_L_eq _ _ _ _).trans li_7, ?_⟩
  refine List.forall_mem_cons.2 ⟨(FU_L_eq _ _ _ _).trans li_8, ?_⟩
  refine List.forall_mem_cons.2 ⟨(FU_L_eq _ _ _ _).trans li_9, ?_⟩
  refine List.forall_mem_cons.2 ⟨(FU_L_eq _ _ _ _).trans li_10, ?_⟩
  refine List.forall_mem_cons.2 ⟨(FU_L_eq _ _ _ _).trans li_11, ?_⟩
  refine List.forall_mem_cons.2 ⟨(FU_L_eq _ _ _ _).trans li_12, ?_⟩
  refine List.forall_mem_cons.2 ⟨(FU_L_eq _ _ _ _).trans li_13, ?_⟩
  refine List.forall_mem_cons.2 ⟨(FU_L_eq _ _ _ _).trans li_14, ?_⟩
  refine List.forall_mem_cons.2 ⟨(FU_L_eq _ _ _ _).trans li_15, ?_⟩
  refine List.forall_mem_cons.2 ⟨(FU_L_eq _ _ _ _).trans li_16, ?_⟩
  exact fun e he => by cases he
theorem H_ffac_Split_le {fu : Nat} (hf : 3000000 <= fu) (a : List Int) (p : Int) (d : List Int) : Le (H_ffac_Split fu a p d) (F_ffac_Split fu a p d) := by
  unfold H_ffac_Split
  split
  · next h =>
    subst h
    rw [<- FU_S_eq]
    exact lk_le tbS _ tbS_ok
  · exact le_none
theorem H_hensel_Lift_le {fu : Nat} (hf : 3000000 <= fu) (a : List Zr) (l : List (List Int)) (p k : Int) : Le (H_hensel_Lift fu a l p k) (F_hensel_Lift fu a l p k) := by
  unfold H_hensel_Lift
  split
  · next h =>
    subst h
    rw [<- FU_L_eq]
    exact lk_le tbL _ tbL_ok
  · exact le_none
def K_zfac_local_0 (fu : Nat) (a0 : List Zr) (a1 : List Int) : ((Int × Int × (List (List Int)) × Int × Int) -> Option (Int × (List (List Int)))) -> (Int × Int × (List (List Int)) × Int × Int) -> Option (Int × (List (List Int))) := fun L (i1, i2, t1, i3, i4) =>
 if i4 = (0 : Int) then
 if i2 < (5 : Int) then
 bd (F_short_Good fu a0 i3) fun (c1, x3) =>
 if ((!c1)) = true then
 bd (M_prime_Next fu i3) fun (x4, x5) =>
 L (i1, i2, t1, x4, x5)
 else
 ck64 (i2 + ((1 : Int))) fun x6 =>
 bd (F_zpoly_Mod fu a0 i3) fun (t2, x7) =>
 bd (H_ffac_Split fu t2 i3 a1) fun (t3, x8) =>
 if i1 = (0 : Int) then
 bd (M_prime_Next fu i3) fun (x9, x10) =>
 L (i3, x6, t3, x9, x10)
 else
 if ((t3.length : Nat) : Int) < ((t1.length : Nat) : Int) then
 bd (M_prime_Next fu i3) fun (x11, x12) =>
 L (i3, x6, t3, x11, x12)
 else
 bd (M_prime_Next fu i3) fun (x13, x14) =>
 L (i1, x6, t1, x13, x14)
 else
 some (i1, t1)
 else
 some (i1, t1)
theorem K_zfac_local_0_le {fu : Nat} (hf : Hf fu) (a0 : List Zr) (a1 : List Int) : ∀ L L', (∀ s, Le (L s) (L' s)) -> ∀ s, Le (K_zfac_local_0 fu a0 a1 L s) (G_zfac_local_0 fu a0 a1 L' s) := by
  intro L L' h s
  unfold K_zfac_local_0 G_zfac_local_0
  with_reducible repeat' first | exact lr | exact h _ | exact F_zpoly_Mod_le hf _ _ | exact H_ffac_Split_le hf _ _ _ | refine lb ?_ fun _ => ?_ | refine l6 fun _ => ?_ | refine li ?_ ?_ | simp only []
def H_zfac_local (fu : Nat) (a0 : List Zr) (a1 : List Int) : Option (Int × (List (List Int))) :=
 bd (M_prime_Next fu (1 : Int)) fun (x1, x2) =>
 bd (loopN (K_zfac_local_0 fu a0 a1) fu (((0 : Int), (0 : Int), [], x1, x2))) fun (i5, t4) =>
 some (i5, t4)
theorem H_zfac_local_le {fu : Nat} (hf : Hf fu) (a0 : List Zr) (a1 : List Int) : Le (H_zfac_local fu a0 a1) (F_zfac_local fu a0 a1) := by
  have h : True := trivial
  unfold H_zfac_local F_zfac_local
  with_reducible repeat' first | exact lr | exact h _ | exact ll (K_zfac_local_0_le hf _ _) _ _ | refine lb ?_ fun _ => ?_ | simp only []
def H_zfac_split (fu : Nat) (a0 : List Zr) (a1 : List Int) : Option ((List (List Zr)) × Bool) :=
 if ((a0.length : Nat) : Int) < (2 : Int) then
 some ([], true)
 else
 bd (M_zfac_great fu a0) fun c1 =>
 if c1 = true then
 some ([], false)
 else
 bd (H_zfac_local fu a0 a1) fun (x1, t1) =>
 if x1 = (0 : Int) then
 some ([], false)
 else
 bd (M_zfac_enough fu a0 x1) fun x2 =>
 bd (M_hensel_Power fu x1 x2) fun (y1, x3) =>
 bd (M_zfac_sought fu a0 t1 x1) fun (t2, t3, t4) =>
 if (1 : Int) < ((t3.length : Nat) : Int) then
 bd (H_hensel_Lift fu t3 t4 x1 x2) fun (t5, x4) =>
 bd (M_zfac_chosen fu t3 t5 y1) fun t6 =>
 ck ((t2.length + t6.length) * 24 <= 140737488355328) <|
 nm (t2 ++ t6) fun t7 =>
 bd (M_slices_SortFunc_api_Int_api_Int_io fu t7 (fun zx0 zx1 => M_zfac_compare fu zx0 zx1)) fun t8 =>
 some (t8, true)
 else
 bd (M_slices_SortFunc_api_Int_api_Int_io fu t2 (fun zx0 zx1 => M_zfac_compare fu zx0 zx1)) fun t9 =>
 some (t9, true)
theorem H_zfac_split_le {fu : Nat} (hf : Hf fu) (a0 : List Zr) (a1 : List Int) : Le (H_zfac_split fu a0 a1) (F_zfac_split fu a0 a1) := by
  have h : True := trivial
  unfold H_zfac_split F_zfac_split
  with_reducible repeat' first | exact lr | exact h _ | exact H_zfac_local_le hf _ _ | exact H_hensel_Lift_le hf _ _ _ _ | refine lb ?_ fun _ => ?_ | refine ln fun _ => ?_ | refine lc ?_ | refine li ?_ ?_ | simp only []
def H_zfac_Factors (fu : Nat) (a0 : List Zr) (a1 : List Int) : Option (Zr × (List ((List Zr) × Int)) × Int) :=
 bd (M_zsqf_Radical fu a0) fun (t1, x1) =>
 if x1 = (0 : Int) then
 bd (H_zfac_split fu t1 a1) fun (t2, c1) =>
 if ((!c1)) = true then
 some (((false, []), [], (6 : Int)))
 else
 bd (loopN (B_zfac_Factors_0 fu a0 t2) fu (([], (0 : Int), (false, []), t2))) fun (t9, t10) =>
 bd (M_zpoly_Content fu a0) fun y1 =>
 some ((y1, t9, (0 : Int)))
 else
 some (((false, []), [], x1))
theorem H_zfac_Factors_le {fu : Nat} (hf : Hf fu) (a0 : List Zr) (a1 : List Int) : Le (H_zfac_Factors fu a0 a1) (F_zfac_Factors fu a0 a1) := by
  have h : True := trivial
  unfold H_zfac_Factors F_zfac_Factors
  with_reducible repeat' first | exact lr | exact h _ | exact H_zfac_split_le hf _ _ | refine lb ?_ fun _ => ?_ | refine li ?_ ?_ | simp only []
def H_law16_ZfacUnity (fu : Nat) (a0 : Int) : Option Bool :=
 bd (H_law16_awake fu) fun c1 =>
 nm (andI a0 ((15 : Int))) fun x1 =>
 ck64 (((1 : Int)) + x1) fun x2 =>
 ckN x2 fun j1 =>
 ck (32 * j1 <= 281474976710656) <|
 nm (List.replicate j1 (false, [])) fun t1 =>
 bd (M_zint_Of fu (-1 : Int)) fun y1 =>
 ckI ((0 : Int)) (t1.length) fun j2 =>
 nm (t1.set j2 y1) fun t2 =>
 bd (M_zint_Of fu (1 : Int)) fun y2 =>
 ck ((t2.length + ([y2]).length) * 32 <= 140737488355328) <|
 nm (t2 ++ ([y2])) fun t3 =>
 bd (H_zfac_Factors fu t3 []) fun (y3, t4, x3) =>
 if x3 = (0 : Int) then
 if ((!c1)) = true then
 some false
 else
 ck64 (x2 + ((1 : Int))) fun x4 =>
 ckN x4 fun j3 =>
 ck (8 * j3 <= 281474976710656) <|
 nm (List.replicate j3 0) fun t5 =>
 bd (loopN (B_law16_ZfacUnity_0 fu x2) fu (((0 : Int), (1 : Int), t4, t5))) fun (i15, t13, t14) =>
 if ((t13.length : Nat) : Int) = i15 then
 bd (loopN (B_law16_ZfacUnity_3 fu x2 t13) fu (((0 : Int), t14))) fun s1 => match s1 with
 | .inl _ =>
 some true
 | .inr _ =>
 some false
 else
 some false
 else
 some false
theorem H_law16_ZfacUnity_le {fu : Nat} (hf : Hf fu) (a0 : Int) : Le (H_law16_ZfacUnity fu a0) (F_law16_ZfacUnity fu a0) := by
  have h : True := trivial
  unfold H_law16_ZfacUnity F_law16_ZfacUnity
  with_reducible repeat' first | exact lr | exact h _ | exact H_zfac_Factors_le hf _ _ | exact H_law16_awake_le hf | refine lb ?_ fun _ => ?_ | refine ln fun _ => ?_ | refine lc ?_ | refine l6 fun _ => ?_ | refine lI fun _ => ?_ | refine lN fun _ => ?_ | refine li ?_ ?_ | simp only [] | split
end Go.Proofs.YtmggkmchbdanfaaGreat
end

