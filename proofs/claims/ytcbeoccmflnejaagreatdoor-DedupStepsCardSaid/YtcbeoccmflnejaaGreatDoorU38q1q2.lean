/-.-/
import Derived.WalkKit
import Derived.Deep.LoopGhost
import Derived.Shelf.Spec.SlicesInsertGrow
import Derived.Test.YtcbeoccmflnejaaGreatDoorU32
set_option linter.all false
namespace Go.Proofs.YtcbeoccmflnejaaGreatDoor
open Go Go.Em Go.Ab
set_option maxRecDepth 100000
open Go.Em
theorem BR {b:Bool}{i:Nat}{x y:Slt}{ss:List Slt}(h:y∈qJ b i x ss):y=x\/y∈ss:=by
 unfold qJ at h;split at h
 ·rcases List.mem_or_eq_of_mem_set h with h|h;·exact .inr h
  exact .inl h
 simp only [qaO,qaa] at h;rcases h with (h|h)|h;·exact .inr (List.mem_of_mem_take h)
 ·exact .inl h
 exact .inr (List.mem_of_mem_drop h)
theorem Kz (b:Bool)(i:Nat)(x:Slt)(ss:List Slt):(qJ b i x ss).length<=ss.length+1:=by
 unfold qJ;split;·simp
 simp;omega
open Go.Em Go.RowKit Go.Lib
end Go.Proofs.YtcbeoccmflnejaaGreatDoor
