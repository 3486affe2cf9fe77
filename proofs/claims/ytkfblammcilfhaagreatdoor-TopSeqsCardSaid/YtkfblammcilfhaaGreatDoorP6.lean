import Derived.Test.YtkfblammcilfhaaGreatDoorP2
set_option linter.all false
set_option maxRecDepth 100000
set_option maxHeartbeats 100000000
open Go.ChangeShapes Go.WideShapes Go.ChangeAt Go.RowKit Go.Proofs.Tryz
namespace Go.Proofs.YtkfblammcilfhaaGreatDoor
section
namespace M
variable {one:Int} {r s t:Room}
def mA(r:Room)(w:eK):w∈r.dF↔w=(0,0)\/w=(1,0)\/((w.1=2\/w.1=3\/w.1=4)/\w.2∈gF/\(r.aD w.2).isSome=true):=by
 unfold Room.dF;rw[List.mem_append,List.mem_flatMap];constructor
 ·rintro(q | ⟨x,c,q⟩)
  ·simp at q;rcases q with q|q
   ·exact .inl q
   ·exact .inr (.inl q)
  ·split at q
   ·rename_i d;simp at q;rcases q with rfl|rfl|rfl
    ·exact .inr (.inr ⟨.inl rfl,c,d⟩)
    ·exact .inr (.inr ⟨.inr (.inl rfl),c,d⟩)
    ·exact .inr (.inr ⟨.inr (.inr rfl),c,d⟩)
   ·simp at q
 ·rintro(rfl|rfl | ⟨q,c,d⟩)
  ·left;simp
  ·left;simp
  ·right;refine⟨w.2,c,?_⟩;rw[if_pos d];obtain⟨a,b⟩:=w;simp only at q;rcases q with rfl|rfl|rfl<;>simp
end M
end
end Go.Proofs.YtkfblammcilfhaaGreatDoor
