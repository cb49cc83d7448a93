/- Arguments opened: what a reading of a struct, or of a slice of structs, tells of the cells and of the numbers' ranges. -/
import Derived.Test.YtiminjibcafkaaaGreatDoorTBJ4
import Derived.ChangeArms
import Derived.Deep.Slices
import Derived.Deep.Fields
import Derived.WalkArith
import Derived.WideShapes
namespace Go.Proofs.YtiminjibcafkaaaGreatDoor.X
open Go.RowKit Go.ChangeShapes Go.WideShapes Go.Deep Go.Proofs.YtiminjibcafkaaaGreatDoorW.PrintWords Go.Proofs.YtiminjibcafkaaaGreatDoorW.PrintLast Go.Proofs.YtiminjibcafkaaaGreatDoorW.PrintMore
set_option linter.unusedVariables false
def In8 (n : Int) : Prop:=0 ≤ n ∧ n ≤ 255
def In32 (n : Int) : Prop:=0 ≤ n ∧ n ≤ 4294967295
def In64 (n : Int) : Prop:=-9223372036854775808 ≤ n ∧ n ≤ 9223372036854775807
theorem wf8 {n : Int} (h : (Lit.int .u8 n).wf = true) : In8 n:=by simpa [In8,Lit.wf,IntKind.min,IntKind.max,IntKind.signed,IntKind.bits] using h
theorem wf32 {n : Int} (h : (Lit.int .u32 n).wf = true) : In32 n:=by simpa [In32,Lit.wf,IntKind.min,IntKind.max,IntKind.signed,IntKind.bits] using h
theorem wf64 {n : Int} (h : (Lit.int .i64 n).wf = true) : In64 n:=by simpa [In64,Lit.wf,IntKind.min,IntKind.max,IntKind.signed,IntKind.bits] using h
theorem list_of {α : Type} {Q : Nat → α → Prop} : ∀ n : Nat,(∀ i,i < n → ∃ x,Q i x) → ∃ l : List α,l.length = n ∧ ∀ i x,l[i]? = some x → Q i x
 | 0,_=>⟨[],rfl,fun i x h=>by simp at h⟩
 | n + 1,h=>by
  obtain ⟨l,hl,hq⟩:=list_of n (fun i hi=>h i (by omega))
  obtain ⟨x,hx⟩:=h n (by omega)
  refine ⟨l ++ [x],by simp [hl],fun i y hy=>?_⟩
  rcases Nat.lt_or_ge i l.length with hi | hi
  ·rw [List.getElem?_append_left hi] at hy;exact hq i y hy
  ·rw [List.getElem?_append_right hi] at hy
   have h0 : i - l.length = 0:=by
    have:=(List.getElem?_eq_some_iff.1 hy).1;simp at this;omega
   rw [h0] at hy
   simp at hy
   rw [← hy,show i = n by omega]
   exact hx
section
variable {H : Type} {enc : TypeId × Value → H} {w : World} {base : Nat} {spare : Nat → Bool} {held : Bool} {fuel : Nat} {cs : List Value} {y : DataW H × List MemPlace}
theorem op_u8 (h : DataW.trod enc Tryz.prog w base spare held fuel 5 cs = some y) : ∃ n,cs = [.int .u8 n] ∧ In8 n:=by
 obtain ⟨n,h1,_,h3⟩:=DataW.trod_int Tryz.underlying5 h
 exact ⟨n,h1,wf8 h3⟩
theorem op_u32 (h : DataW.trod enc Tryz.prog w base spare held fuel 22 cs = some y) : ∃ n,cs = [.int .u32 n] ∧ In32 n:=by
 obtain ⟨n,h1,_,h3⟩:=DataW.trod_int Tryz.underlying22 h
 exact ⟨n,h1,wf32 h3⟩
theorem op_i64 (h : DataW.trod enc Tryz.prog w base spare held fuel 3 cs = some y) : ∃ n,cs = [.int .i64 n] ∧ In64 n:=by
 obtain ⟨n,h1,_,h3⟩:=DataW.trod_int Tryz.underlying3 h
 exact ⟨n,h1,wf64 h3⟩
theorem op_bool (h : DataW.trod enc Tryz.prog w base spare held fuel 4 cs = some y) : ∃ b,cs = [.bool b] ∧ True:=by
 obtain ⟨b,h1,_⟩:=DataW.trod_bool Tryz.underlying4 h
 exact ⟨b,h1,trivial⟩
theorem op_slice {t e : TypeId} {α : Type} {d : Kd α} {ok : α → Prop} (ht : Tryz.prog.underlying t = some (.slice e)) (hsz : Tryz.prog.cellsOf e = d.sz)
 (hop : ∀ {fuel : Nat} {cs : List Value} {y : DataW H × List MemPlace},DataW.trod enc Tryz.prog w base spare held fuel e cs = some y → ∃ x,d.K w x cs ∧ ok x)
 (h : DataW.trod enc Tryz.prog w base spare held fuel t cs = some y) : ∃ (A : Option Addr) (l : List α) (cap : Nat),cs = [.slice A l.length cap] ∧ d.C w A l.length l ∧ l.length ≤ cap ∧ ∀ x ∈ l,ok x:=by
 rcases open_slice ht h with ⟨h0,_⟩ | ⟨a,len,cap,m,n,D,Pl,hcs,hb,hl,hm,hmm,hx,hi⟩
 ·exact ⟨none,[],0,h0,⟨rfl,by simp,fun h=>by simp at h⟩,Nat.le_refl _,fun x hx=>by simp at hx⟩
 ·have hle : len ≤ m:=by rw [hmm];split<;>omega
  obtain ⟨l,hll,hq⟩:=list_of (Q:=fun i x=>∃ c,c.length = d.sz ∧ d.K w x c ∧ ok x ∧ ∀ j u,c[j]? = some u → w.cell? (a.add (i * d.sz + j)) = some u) len (fun i hil=>by
   obtain ⟨cs',hc,ht'⟩:=hi i (by omega)
   obtain ⟨x,hk,ho⟩:=hop ht'
   obtain ⟨_,hcl,hat⟩:=World.cells?_some hc
   refine ⟨x,cs',by rw [hcl,hsz],hk,ho,fun j u hj=>?_⟩
   have hj2 : j < Tryz.prog.cellsOf e:=by rw [← hcl];exact (List.getElem?_eq_some_iff.1 hj).1
   have:=hat j hj2
   rw [hj,hsz] at this
   rw [← this,Go.Deep.add_add])
  subst hll
  refine ⟨some a,l,cap,hcs,⟨rfl,by unfold maxLen at hm;omega,fun _=>⟨a,rfl,fun j x hj=>?_⟩⟩,hl,fun x hx=>?_⟩
  ·obtain ⟨c,h1,h2,_,h3⟩:=hq j x hj
   exact ⟨c,h1,h2,h3⟩
  ·obtain ⟨j,hj⟩:=List.mem_iff_getElem?.1 hx
   obtain ⟨c,_,_,h3,_⟩:=hq j x hj
   exact h3
theorem len_3 {l : List Value} (h : l.length = 3) : ∃ c0 c1 c2,l = [c0,c1,c2]:=match l,h with
 | [c0,c1,c2],_=>⟨c0,c1,c2,rfl⟩
theorem len_7 {l : List Value} (h : l.length = 7) : ∃ c0 c1 c2 c3 c4 c5 c6,l = [c0,c1,c2,c3,c4,c5,c6]:=match l,h with
 | [c0,c1,c2,c3,c4,c5,c6],_=>⟨c0,c1,c2,c3,c4,c5,c6,rfl⟩
theorem len_13 {l : List Value} (h : l.length = 13) : ∃ c0 c1 c2 c3 c4 c5 c6 c7 c8 c9 c10 c11 c12,l = [c0,c1,c2,c3,c4,c5,c6,c7,c8,c9,c10,c11,c12]:=match l,h with
 | [c0,c1,c2,c3,c4,c5,c6,c7,c8,c9,c10,c11,c12],_=>⟨c0,c1,c2,c3,c4,c5,c6,c7,c8,c9,c10,c11,c12,rfl⟩
def Ok_Ver (x : S60) : Prop:=In8 x.f0 ∧ In32 x.f1 ∧ In32 x.f2
theorem op_Ver (h : DataW.trod enc Tryz.prog w base spare held fuel 60 cs = some y) : ∃ x : S60,k60.K w x cs ∧ Ok_Ver x:=by
 obtain ⟨ys,n,_,_,hlen,hyl,hf⟩:=DataW.trod_struct Tryz.underlying60 h
 replace hlen : cs.length = 3:=hlen.trans (by kernel_rfl)
 obtain ⟨c0,c1,c2,rfl⟩:=len_3 hlen
 have h0 : DataW.trod enc Tryz.prog w base spare held n 5 (List.take (Tryz.prog.cellsOf 5) (List.drop 0 [c0,c1,c2])) = some (ys[0]'(by rw [hyl];decide)):=(hf 0 _ rfl).trans (List.getElem?_eq_getElem (by rw [hyl];decide))
 rw [show Tryz.prog.cellsOf 5 = 1 from by kernel_rfl] at h0
 change DataW.trod enc _ w base spare held n 5 [c0] = _ at h0
 have h1 : DataW.trod enc Tryz.prog w base spare held n 22 (List.take (Tryz.prog.cellsOf 22) (List.drop 1 [c0,c1,c2])) = some (ys[1]'(by rw [hyl];decide)):=(hf 1 _ rfl).trans (List.getElem?_eq_getElem (by rw [hyl];decide))
 rw [show Tryz.prog.cellsOf 22 = 1 from by kernel_rfl] at h1
 change DataW.trod enc _ w base spare held n 22 [c1] = _ at h1
 have h2 : DataW.trod enc Tryz.prog w base spare held n 22 (List.take (Tryz.prog.cellsOf 22) (List.drop 2 [c0,c1,c2])) = some (ys[2]'(by rw [hyl];decide)):=(hf 2 _ rfl).trans (List.getElem?_eq_getElem (by rw [hyl];decide))
 rw [show Tryz.prog.cellsOf 22 = 1 from by kernel_rfl] at h2
 change DataW.trod enc _ w base spare held n 22 [c2] = _ at h2
 obtain ⟨x0,e0,o0⟩:=op_u8 h0
 injection e0 with e0;subst e0
 obtain ⟨x1,e1,o1⟩:=op_u32 h1
 injection e1 with e1;subst e1
 obtain ⟨x2,e2,o2⟩:=op_u32 h2
 injection e2 with e2;subst e2
 exact ⟨⟨x0,x1,x2⟩,k60_mk w ⟨x0,x1,x2⟩ ,⟨o0,o1,o2⟩⟩
def Ok_Entry (x : S62) : Prop:=In8 x.f0 ∧ Ok_Ver x.f1 ∧ In64 x.f2 ∧ In8 x.f3 ∧ In32 x.f4
theorem op_Entry (h : DataW.trod enc Tryz.prog w base spare held fuel 62 cs = some y) : ∃ x : S62,k62.K w x cs ∧ Ok_Entry x:=by
 obtain ⟨ys,n,_,_,hlen,hyl,hf⟩:=DataW.trod_struct Tryz.underlying62 h
 replace hlen : cs.length = 7:=hlen.trans (by kernel_rfl)
 obtain ⟨c0,c1,c2,c3,c4,c5,c6,rfl⟩:=len_7 hlen
 have h0 : DataW.trod enc Tryz.prog w base spare held n 5 (List.take (Tryz.prog.cellsOf 5) (List.drop 0 [c0,c1,c2,c3,c4,c5,c6])) = some (ys[0]'(by rw [hyl];decide)):=(hf 0 _ rfl).trans (List.getElem?_eq_getElem (by rw [hyl];decide))
 rw [show Tryz.prog.cellsOf 5 = 1 from by kernel_rfl] at h0
 change DataW.trod enc _ w base spare held n 5 [c0] = _ at h0
 have h1 : DataW.trod enc Tryz.prog w base spare held n 60 (List.take (Tryz.prog.cellsOf 60) (List.drop 1 [c0,c1,c2,c3,c4,c5,c6])) = some (ys[1]'(by rw [hyl];decide)):=(hf 1 _ rfl).trans (List.getElem?_eq_getElem (by rw [hyl];decide))
 rw [show Tryz.prog.cellsOf 60 = 3 from by kernel_rfl] at h1
 change DataW.trod enc _ w base spare held n 60 [c1,c2,c3] = _ at h1
 have h2 : DataW.trod enc Tryz.prog w base spare held n 3 (List.take (Tryz.prog.cellsOf 3) (List.drop 4 [c0,c1,c2,c3,c4,c5,c6])) = some (ys[2]'(by rw [hyl];decide)):=(hf 2 _ rfl).trans (List.getElem?_eq_getElem (by rw [hyl];decide))
 rw [show Tryz.prog.cellsOf 3 = 1 from by kernel_rfl] at h2
 change DataW.trod enc _ w base spare held n 3 [c4] = _ at h2
 have h3 : DataW.trod enc Tryz.prog w base spare held n 5 (List.take (Tryz.prog.cellsOf 5) (List.drop 5 [c0,c1,c2,c3,c4,c5,c6])) = some (ys[3]'(by rw [hyl];decide)):=(hf 3 _ rfl).trans (List.getElem?_eq_getElem (by rw [hyl];decide))
 rw [show Tryz.prog.cellsOf 5 = 1 from by kernel_rfl] at h3
 change DataW.trod enc _ w base spare held n 5 [c5] = _ at h3
 have h4 : DataW.trod enc Tryz.prog w base spare held n 22 (List.take (Tryz.prog.cellsOf 22) (List.drop 6 [c0,c1,c2,c3,c4,c5,c6])) = some (ys[4]'(by rw [hyl];decide)):=(hf 4 _ rfl).trans (List.getElem?_eq_getElem (by rw [hyl];decide))
 rw [show Tryz.prog.cellsOf 22 = 1 from by kernel_rfl] at h4
 change DataW.trod enc _ w base spare held n 22 [c6] = _ at h4
 obtain ⟨x0,e0,o0⟩:=op_u8 h0
 injection e0 with e0;subst e0
 obtain ⟨x1,e1,o1⟩:=op_Ver h1
 replace e1:=k60_open e1
 simp only [List.cons.injEq,and_true] at e1
 obtain ⟨rfl,rfl,rfl⟩:=e1
 obtain ⟨x2,e2,o2⟩:=op_i64 h2
 injection e2 with e2;subst e2
 obtain ⟨x3,e3,o3⟩:=op_u8 h3
 injection e3 with e3;subst e3
 obtain ⟨x4,e4,o4⟩:=op_u32 h4
 injection e4 with e4;subst e4
 exact ⟨⟨x0,x1,x2,x3,x4⟩,k62_mk w ⟨x0,x1,x2,x3,x4⟩ ,⟨o0,o1,o2,o3,o4⟩⟩
theorem op_rowEntry (h : DataW.trod enc Tryz.prog w base spare held fuel 24 cs = some y) : ∃ (A : Option Addr) (l : List S62) (cap : Nat),cs = [.slice A l.length cap] ∧ k62.C w A l.length l ∧ l.length ≤ cap ∧ ∀ x ∈ l,Ok_Entry x :=
 op_slice Tryz.underlying24 (by kernel_rfl) op_Entry h
def Ok_Run (x : S67) : Prop:=In8 x.f0 ∧ In32 x.f1 ∧ In32 x.f2
theorem op_Run (h : DataW.trod enc Tryz.prog w base spare held fuel 67 cs = some y) : ∃ x : S67,k67.K w x cs ∧ Ok_Run x:=by
 obtain ⟨ys,n,_,_,hlen,hyl,hf⟩:=DataW.trod_struct Tryz.underlying67 h
 replace hlen : cs.length = 3:=hlen.trans (by kernel_rfl)
 obtain ⟨c0,c1,c2,rfl⟩:=len_3 hlen
 have h0 : DataW.trod enc Tryz.prog w base spare held n 5 (List.take (Tryz.prog.cellsOf 5) (List.drop 0 [c0,c1,c2])) = some (ys[0]'(by rw [hyl];decide)):=(hf 0 _ rfl).trans (List.getElem?_eq_getElem (by rw [hyl];decide))
 rw [show Tryz.prog.cellsOf 5 = 1 from by kernel_rfl] at h0
 change DataW.trod enc _ w base spare held n 5 [c0] = _ at h0
 have h1 : DataW.trod enc Tryz.prog w base spare held n 22 (List.take (Tryz.prog.cellsOf 22) (List.drop 1 [c0,c1,c2])) = some (ys[1]'(by rw [hyl];decide)):=(hf 1 _ rfl).trans (List.getElem?_eq_getElem (by rw [hyl];decide))
 rw [show Tryz.prog.cellsOf 22 = 1 from by kernel_rfl] at h1
 change DataW.trod enc _ w base spare held n 22 [c1] = _ at h1
 have h2 : DataW.trod enc Tryz.prog w base spare held n 22 (List.take (Tryz.prog.cellsOf 22) (List.drop 2 [c0,c1,c2])) = some (ys[2]'(by rw [hyl];decide)):=(hf 2 _ rfl).trans (List.getElem?_eq_getElem (by rw [hyl];decide))
 rw [show Tryz.prog.cellsOf 22 = 1 from by kernel_rfl] at h2
 change DataW.trod enc _ w base spare held n 22 [c2] = _ at h2
 obtain ⟨x0,e0,o0⟩:=op_u8 h0
 injection e0 with e0;subst e0
 obtain ⟨x1,e1,o1⟩:=op_u32 h1
 injection e1 with e1;subst e1
 obtain ⟨x2,e2,o2⟩:=op_u32 h2
 injection e2 with e2;subst e2
 exact ⟨⟨x0,x1,x2⟩,k67_mk w ⟨x0,x1,x2⟩ ,⟨o0,o1,o2⟩⟩
theorem op_rowRun (h : DataW.trod enc Tryz.prog w base spare held fuel 23 cs = some y) : ∃ (A : Option Addr) (l : List S67) (cap : Nat),cs = [.slice A l.length cap] ∧ k67.C w A l.length l ∧ l.length ≤ cap ∧ ∀ x ∈ l,Ok_Run x :=
 op_slice Tryz.underlying23 (by kernel_rfl) op_Run h
def Ok_Session (x : S26) : Prop:=True ∧ In32 x.f1 ∧ In8 x.f2 ∧ In8 x.f3 ∧ In32 x.f4 ∧ (∀ z ∈ x.f5,Ok_Run z) ∧ In32 x.f6
theorem op_Session (h : DataW.trod enc Tryz.prog w base spare held fuel 26 cs = some y) : ∃ x : S26,k26.K w x cs ∧ Ok_Session x:=by
 obtain ⟨ys,n,_,_,hlen,hyl,hf⟩:=DataW.trod_struct Tryz.underlying26 h
 replace hlen : cs.length = 7:=hlen.trans (by kernel_rfl)
 obtain ⟨c0,c1,c2,c3,c4,c5,c6,rfl⟩:=len_7 hlen
 have h0 : DataW.trod enc Tryz.prog w base spare held n 4 (List.take (Tryz.prog.cellsOf 4) (List.drop 0 [c0,c1,c2,c3,c4,c5,c6])) = some (ys[0]'(by rw [hyl];decide)):=(hf 0 _ rfl).trans (List.getElem?_eq_getElem (by rw [hyl];decide))
 rw [show Tryz.prog.cellsOf 4 = 1 from by kernel_rfl] at h0
 change DataW.trod enc _ w base spare held n 4 [c0] = _ at h0
 have h1 : DataW.trod enc Tryz.prog w base spare held n 22 (List.take (Tryz.prog.cellsOf 22) (List.drop 1 [c0,c1,c2,c3,c4,c5,c6])) = some (ys[1]'(by rw [hyl];decide)):=(hf 1 _ rfl).trans (List.getElem?_eq_getElem (by rw [hyl];decide))
 rw [show Tryz.prog.cellsOf 22 = 1 from by kernel_rfl] at h1
 change DataW.trod enc _ w base spare held n 22 [c1] = _ at h1
 have h2 : DataW.trod enc Tryz.prog w base spare held n 5 (List.take (Tryz.prog.cellsOf 5) (List.drop 2 [c0,c1,c2,c3,c4,c5,c6])) = some (ys[2]'(by rw [hyl];decide)):=(hf 2 _ rfl).trans (List.getElem?_eq_getElem (by rw [hyl];decide))
 rw [show Tryz.prog.cellsOf 5 = 1 from by kernel_rfl] at h2
 change DataW.trod enc _ w base spare held n 5 [c2] = _ at h2
 have h3 : DataW.trod enc Tryz.prog w base spare held n 5 (List.take (Tryz.prog.cellsOf 5) (List.drop 3 [c0,c1,c2,c3,c4,c5,c6])) = some (ys[3]'(by rw [hyl];decide)):=(hf 3 _ rfl).trans (List.getElem?_eq_getElem (by rw [hyl];decide))
 rw [show Tryz.prog.cellsOf 5 = 1 from by kernel_rfl] at h3
 change DataW.trod enc _ w base spare held n 5 [c3] = _ at h3
 have h4 : DataW.trod enc Tryz.prog w base spare held n 22 (List.take (Tryz.prog.cellsOf 22) (List.drop 4 [c0,c1,c2,c3,c4,c5,c6])) = some (ys[4]'(by rw [hyl];decide)):=(hf 4 _ rfl).trans (List.getElem?_eq_getElem (by rw [hyl];decide))
 rw [show Tryz.prog.cellsOf 22 = 1 from by kernel_rfl] at h4
 change DataW.trod enc _ w base spare held n 22 [c4] = _ at h4
 have h5 : DataW.trod enc Tryz.prog w base spare held n 23 (List.take (Tryz.prog.cellsOf 23) (List.drop 5 [c0,c1,c2,c3,c4,c5,c6])) = some (ys[5]'(by rw [hyl];decide)):=(hf 5 _ rfl).trans (List.getElem?_eq_getElem (by rw [hyl];decide))
 rw [show Tryz.prog.cellsOf 23 = 1 from by kernel_rfl] at h5
 change DataW.trod enc _ w base spare held n 23 [c5] = _ at h5
 have h6 : DataW.trod enc Tryz.prog w base spare held n 22 (List.take (Tryz.prog.cellsOf 22) (List.drop 6 [c0,c1,c2,c3,c4,c5,c6])) = some (ys[6]'(by rw [hyl];decide)):=(hf 6 _ rfl).trans (List.getElem?_eq_getElem (by rw [hyl];decide))
 rw [show Tryz.prog.cellsOf 22 = 1 from by kernel_rfl] at h6
 change DataW.trod enc _ w base spare held n 22 [c6] = _ at h6
 obtain ⟨x0,e0,o0⟩:=op_bool h0
 injection e0 with e0;subst e0
 obtain ⟨x1,e1,o1⟩:=op_u32 h1
 injection e1 with e1;subst e1
 obtain ⟨x2,e2,o2⟩:=op_u8 h2
 injection e2 with e2;subst e2
 obtain ⟨x3,e3,o3⟩:=op_u8 h3
 injection e3 with e3;subst e3
 obtain ⟨x4,e4,o4⟩:=op_u32 h4
 injection e4 with e4;subst e4
 obtain ⟨A5,x5,p5,e5,g5,l5,o5⟩:=op_rowRun h5
 injection e5 with e5;subst e5
 obtain ⟨x6,e6,o6⟩:=op_u32 h6
 injection e6 with e6;subst e6
 exact ⟨⟨x0,x1,x2,x3,x4,x5,x6⟩,k26_mk w ⟨x0,x1,x2,x3,x4,x5,x6⟩ l5 g5,⟨o0,o1,o2,o3,o4,o5,o6⟩⟩
def Ok_Replica (x : S28) : Prop:=In8 x.f0 ∧ In8 x.f1 ∧ In32 x.f2 ∧ In32 x.f3 ∧ (∀ z ∈ x.f4,Ok_Run z) ∧ (∀ z ∈ x.f5,Ok_Entry z) ∧ Ok_Session x.f6
theorem op_Replica (h : DataW.trod enc Tryz.prog w base spare held fuel 28 cs = some y) : ∃ x : S28,k28.K w x cs ∧ Ok_Replica x:=by
 obtain ⟨ys,n,_,_,hlen,hyl,hf⟩:=DataW.trod_struct Tryz.underlying28 h
 replace hlen : cs.length = 13:=hlen.trans (by kernel_rfl)
 obtain ⟨c0,c1,c2,c3,c4,c5,c6,c7,c8,c9,c10,c11,c12,rfl⟩:=len_13 hlen
 have h0 : DataW.trod enc Tryz.prog w base spare held n 5 (List.take (Tryz.prog.cellsOf 5) (List.drop 0 [c0,c1,c2,c3,c4,c5,c6,c7,c8,c9,c10,c11,c12])) = some (ys[0]'(by rw [hyl];decide)):=(hf 0 _ rfl).trans (List.getElem?_eq_getElem (by rw [hyl];decide))
 rw [show Tryz.prog.cellsOf 5 = 1 from by kernel_rfl] at h0
 change DataW.trod enc _ w base spare held n 5 [c0] = _ at h0
 have h1 : DataW.trod enc Tryz.prog w base spare held n 5 (List.take (Tryz.prog.cellsOf 5) (List.drop 1 [c0,c1,c2,c3,c4,c5,c6,c7,c8,c9,c10,c11,c12])) = some (ys[1]'(by rw [hyl];decide)):=(hf 1 _ rfl).trans (List.getElem?_eq_getElem (by rw [hyl];decide))
 rw [show Tryz.prog.cellsOf 5 = 1 from by kernel_rfl] at h1
 change DataW.trod enc _ w base spare held n 5 [c1] = _ at h1
 have h2 : DataW.trod enc Tryz.prog w base spare held n 22 (List.take (Tryz.prog.cellsOf 22) (List.drop 2 [c0,c1,c2,c3,c4,c5,c6,c7,c8,c9,c10,c11,c12])) = some (ys[2]'(by rw [hyl];decide)):=(hf 2 _ rfl).trans (List.getElem?_eq_getElem (by rw [hyl];decide))
 rw [show Tryz.prog.cellsOf 22 = 1 from by kernel_rfl] at h2
 change DataW.trod enc _ w base spare held n 22 [c2] = _ at h2
 have h3 : DataW.trod enc Tryz.prog w base spare held n 22 (List.take (Tryz.prog.cellsOf 22) (List.drop 3 [c0,c1,c2,c3,c4,c5,c6,c7,c8,c9,c10,c11,c12])) = some (ys[3]'(by rw [hyl];decide)):=(hf 3 _ rfl).trans (List.getElem?_eq_getElem (by rw [hyl];decide))
 rw [show Tryz.prog.cellsOf 22 = 1 from by kernel_rfl] at h3
 change DataW.trod enc _ w base spare held n 22 [c3] = _ at h3
 have h4 : DataW.trod enc Tryz.prog w base spare held n 23 (List.take (Tryz.prog.cellsOf 23) (List.drop 4 [c0,c1,c2,c3,c4,c5,c6,c7,c8,c9,c10,c11,c12])) = some (ys[4]'(by rw [hyl];decide)):=(hf 4 _ rfl).trans (List.getElem?_eq_getElem (by rw [hyl];decide))
 rw [show Tryz.prog.cellsOf 23 = 1 from by kernel_rfl] at h4
 change DataW.trod enc _ w base spare held n 23 [c4] = _ at h4
 have h5 : DataW.trod enc Tryz.prog w base spare held n 24 (List.take (Tryz.prog.cellsOf 24) (List.drop 5 [c0,c1,c2,c3,c4,c5,c6,c7,c8,c9,c10,c11,c12])) = some (ys[5]'(by rw [hyl];decide)):=(hf 5 _ rfl).trans (List.getElem?_eq_getElem (by rw [hyl];decide))
 rw [show Tryz.prog.cellsOf 24 = 1 from by kernel_rfl] at h5
 change DataW.trod enc _ w base spare held n 24 [c5] = _ at h5
 have h6 : DataW.trod enc Tryz.prog w base spare held n 26 (List.take (Tryz.prog.cellsOf 26) (List.drop 6 [c0,c1,c2,c3,c4,c5,c6,c7,c8,c9,c10,c11,c12])) = some (ys[6]'(by rw [hyl];decide)):=(hf 6 _ rfl).trans (List.getElem?_eq_getElem (by rw [hyl];decide))
 rw [show Tryz.prog.cellsOf 26 = 7 from by kernel_rfl] at h6
 change DataW.trod enc _ w base spare held n 26 [c6,c7,c8,c9,c10,c11,c12] = _ at h6
 obtain ⟨x0,e0,o0⟩:=op_u8 h0
 injection e0 with e0;subst e0
 obtain ⟨x1,e1,o1⟩:=op_u8 h1
 injection e1 with e1;subst e1
 obtain ⟨x2,e2,o2⟩:=op_u32 h2
 injection e2 with e2;subst e2
 obtain ⟨x3,e3,o3⟩:=op_u32 h3
 injection e3 with e3;subst e3
 obtain ⟨A4,x4,p4,e4,g4,l4,o4⟩:=op_rowRun h4
 injection e4 with e4;subst e4
 obtain ⟨A5,x5,p5,e5,g5,l5,o5⟩:=op_rowEntry h5
 injection e5 with e5;subst e5
 obtain ⟨x6,e6,o6⟩:=op_Session h6
 obtain ⟨A6_5,p6_5,e6,l6_5,g6_5⟩:=k26_open e6
 simp only [List.cons.injEq,and_true] at e6
 obtain ⟨rfl,rfl,rfl,rfl,rfl,rfl,rfl⟩:=e6
 exact ⟨⟨x0,x1,x2,x3,x4,x5,x6⟩,k28_mk w ⟨x0,x1,x2,x3,x4,x5,x6⟩ l4 g4 l5 g5 l6_5 g6_5,⟨o0,o1,o2,o3,o4,o5,o6⟩⟩
end
end Go.Proofs.YtiminjibcafkaaaGreatDoor.X
