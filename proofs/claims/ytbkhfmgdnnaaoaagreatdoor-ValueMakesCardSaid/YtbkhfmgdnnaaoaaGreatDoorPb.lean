/- Proved: what the functions of package addr with loops return. No condition. -/
import Derived.Test.YtbkhfmgdnnaaoaaGreatDoorPa
namespace Go.Proofs.YtbkhfmgdnnaaoaaGreatDoor
open Go Go.EYtbkhfmgdnnaaoaaGreatDoor
set_option maxRecDepth 100000
variable {gl : List (Nat × List D)}

def orL : List Int → Int
  | [] => 0
  | x :: r => if x = 0 then orL r else x
theorem get_map {α β : Type} {f : α → β} {l : List α} {k : Nat} (h : k < l.length) : (l.map f)[((k : Nat) : Int).toNat]? = some (f l[k]) := by
  simp [h]
theorem orL_drop {l : List Int} {k : Nat} (h : k < l.length) : orL (l.drop k) = if l[k] = 0 then orL (l.drop (k + 1)) else l[k] := by
  rw [List.drop_eq_getElem_cons h]; rfl
theorem Or_d (l : List Int) (hl : l.length ≤ 1000) : FnP Tryz.prog gl 27 [.lst 1 (l.map fun x => [iD x])] (iD (orL l)) := by
  refine fnP_of_vc (nv := 9999) (cu := []) fits mixed Tryz.func27 rfl (by unfold HasBody; kernel_rfl) rfl ?_
  ((repeat' ((conv => whnf); (first | refine Fork.yes (by assumption) ?_ | refine Fork.no (by assumption) ?_ | refine Fork.nono (by assumption) ?_ | (refine Fork.yes ?_ ?_; focus (simp [andPD]; done)) | (refine Fork.no ?_ ?_; focus (simp [andPD]; done)) | refine Fork.neg (fun _ => ?_) (fun _ => ?_) | refine Fork.mk (fun _ => ?_) (fun _ => ?_)))); (all_goals (conv => whnf)))
  refine ⟨{ σ := Nat, fr := fun k => [(8, .c (.d (iD k)))], ks := [], L := fun _ => [], ex := 0, I := fun k => k ≤ l.length ∧ orL l = orL (l.drop k), μ := fun k => l.length - k }, ⟨0, ⟨Nat.zero_le _, rfl⟩, ?_⟩, fun (k : Nat) hk => ?_⟩
  · ((repeat' first | exact rfl | ((conv => whnf); first | done | exact True.intro | exact Or.inr (Or.inl rfl) | exact Or.inr (Or.inr (Or.inl ⟨rfl, _, _, rfl, by omega⟩)) | refine And.intro ?_ ?_)); (all_goals (conv => whnf)))
  · obtain ⟨hk1, hk2⟩ := hk
    ((repeat' ((conv => whnf); (first | refine Fork.yes (by assumption) ?_ | refine Fork.no (by assumption) ?_ | refine Fork.nono (by assumption) ?_ | (refine Fork.yes ?_ ?_; focus (simp [andPD]; done)) | (refine Fork.no ?_ ?_; focus (simp [andPD]; done)) | refine Fork.neg (fun _ => ?_) (fun _ => ?_) | refine Fork.mk (fun _ => ?_) (fun _ => ?_)))); (all_goals (conv => whnf)))
    · rename_i h
      have hlt : k < l.length := by simpa using h
      have hd := orL_drop hlt
      refine ⟨Int.natCast_nonneg _, _, get_map hlt, ?_⟩
      ((repeat' ((conv => whnf); (first | refine Fork.yes (by assumption) ?_ | refine Fork.no (by assumption) ?_ | refine Fork.nono (by assumption) ?_ | (refine Fork.yes ?_ ?_; focus (simp [andPD]; done)) | (refine Fork.no ?_ ?_; focus (simp [andPD]; done)) | refine Fork.neg (fun _ => ?_) (fun _ => ?_) | refine Fork.mk (fun _ => ?_) (fun _ => ?_)))); (all_goals (conv => whnf)))
      · rename_i h0
        exact LeD.of (congrArg iD (by rw [hk2, hd, if_neg h0]))
      · rename_i h0
        refine ⟨k + 1, ⟨⟨hlt, by rw [hk2, hd, if_pos h0]⟩, by show l.length - (k + 1) < l.length - k; omega⟩, ?_⟩
        ((repeat' first | exact rfl | ((conv => whnf); first | done | exact True.intro | exact Or.inr (Or.inl rfl) | exact Or.inr (Or.inr (Or.inl ⟨rfl, _, _, rfl, by omega⟩)) | refine And.intro ?_ ?_)); (all_goals (conv => whnf)))
        exact Or.inr (Or.inl (congrArg (fun z => C.d (iD z)) (wrapI (n := (k : Int) + 1) (by omega))))
    · rename_i h
      refine LeD.of (congrArg iD ?_)
      rw [hk2, List.drop_of_length_le (by simpa using h)]; rfl
def orZ (a b : Int) : Int := if a = 0 then b else a
theorem orZ_eq (a b : Int) : orL [a, b] = orZ a b := by by_cases h : a = 0 <;> by_cases h2 : b = 0 <;> simp [orL, orZ, h, h2]
end Go.Proofs.YtbkhfmgdnnaaoaaGreatDoor
