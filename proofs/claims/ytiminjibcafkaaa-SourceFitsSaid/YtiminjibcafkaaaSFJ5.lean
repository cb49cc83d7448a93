/- Texts that this claim's law comes to, joined by wip/slim.py: WInv, WInvWords, WGuard. -/
import Derived.Test.YtiminjibcafkaaaSFJ2
import Derived.Test.YtiminjibcafkaaaSFJ3
import Derived.Test.YtiminjibcafkaaaSFWWords
section
-- Cut by wip/slim.py out of what the kit's print.sh had laid for this seat (YtiminjibcafkaaaWInv): what this claim comes to, and no more. The text is no longer as it was printed.
/-! ### 57. A region of open order by ONE relation over what is listed so far: each operation is shown once, whatever came up before it -/
namespace Go.Proofs.YtiminjibcafkaaaW.PrintLast
section
variable {P : Program} {ops : Array Oper} {Q : Exit → Act → World → Prop} {md : Region.Mode} {T : Bool × List (List Nat × List Nat)} {B : List Nat} {O : List Nat} {b : Nat → Bool} {i j n : Nat}
/-! The frame: what is listed has its destination filled. -/
end
end Go.Proofs.YtiminjibcafkaaaW.PrintLast
end
section
-- Cut by wip/slim.py out of what the kit's print.sh had laid for this seat (YtiminjibcafkaaaWInvWords): what this claim comes to, and no more. The text is no longer as it was printed.
namespace Go.Proofs.YtiminjibcafkaaaW.PrintWords
open Go.RowKit
/-- A flat row (its elements are told by no ok): ok may be told anew of its own block alone. hd: 'fun h => h'. -/
theorem Kd.R_flat {α : Type} {d : Kd α} {e base : Nat} {ok ok' : Nat → Prop} {w : World} {v : Value} {xs : List α} (hd : ∀ {ok1 ok2 : Nat → Prop} {x : α} {cs : List Value}, d.M w base ok1 x cs → d.M w base ok2 x cs) (h : d.R e w base ok v xs) (hok : ∀ k, v.ownBlock = some k → ok k → ok' k) : d.R e w base ok' v xs := by
  obtain ⟨h0, inner, hown, hr⟩ := h
  exact ⟨fun k hk => hok k hk (h0 k hk), inner, hown, hr.imp_ (fun _ _ hm => hd hm)⟩
end Go.Proofs.YtiminjibcafkaaaW.PrintWords
namespace Go.Proofs.YtiminjibcafkaaaW.PrintLast
section
variable {ops : Array Oper} {a : Act} {o og : Oper} {g : Nat} {t : Tmp} {u : Bool}
end
end Go.Proofs.YtiminjibcafkaaaW.PrintLast
end
section
-- Cut by wip/slim.py out of what the kit's print.sh had laid for this seat (YtiminjibcafkaaaWGuard): what this claim comes to, and no more. The text is no longer as it was printed.
/-! ### 58. A guarded operation whose guard is known to want it: the same goal without the guard -/
namespace Go.Proofs.YtiminjibcafkaaaW.PrintWords
open Go.RowKit
section
variable {P : Program} {ops : Array Oper} {rest : List Oper} {o : Oper} {a : Act} {Q : Exit → Act → World → Prop} {W : World}
/-- The gate takes the guard off (hw: 'by rfl', 'by kernel_rfl': the guard's slot holds what is wanted). -/
theorem gate_guard (hw : Region.wanted o (yielded ops a.tmps) = true) (h : wpList P ops Q ({ o with guard := none } :: rest) a W) : wpList P ops Q (o :: rest) a W := by
  have h1 : Region.wanted { o with guard := none } (yielded ops a.tmps) = true := rfl
  unfold wpList at h ⊢
  rw [if_pos h1] at h
  rw [if_pos hw]
  exact h
end
end Go.Proofs.YtiminjibcafkaaaW.PrintWords
end
