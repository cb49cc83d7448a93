/- A part of the proof. -/
import Derived.Test.YtiminjibcafkaaaGreatDoorTGTAJ4
import Derived.Test.YtiminjibcafkaaaGreatDoorTGTAJ5
import Derived.Lib.Overlaps
import Derived.Lib.AppendZerosOnto
import Derived.Laws.CopyRow
import Derived.Deep.RegionLaw
import Derived.Laws.CopyOwn
import Derived.Laws.Externs
import Derived.Lib.Walk
set_option linter.unusedSimpArgs false
set_option linter.unusedVariables false
namespace Go.Proofs.YtiminjibcafkaaaGreatDoor.X
open RowKit YtiminjibcafkaaaGreatDoorW.PrintWords YtiminjibcafkaaaGreatDoorW.PrintLast YtiminjibcafkaaaGreatDoorW.PrintMore
attribute [local go_sem] max2_int min2_int max_two min_two max_three min_three max_four min_four
def slices_Insert_Entry.f (l0 : List (S62)) (a1 : Int) (l2 : List (S62)) : Option (List (S62)) :=
 match l2 with
 | [x]=>if 0 ≤ a1 then (if a1 ≤ (l0.length : Int) then (if l0.length < 4398046511103 then some (l0.take a1.toNat ++ x :: l0.drop a1.toNat) else none) else none) else none
 | _=>none
def encEntry (x : S62) : List Value:=[.int .u8 x.f0,.int .u8 x.f1.f0,.int .u32 x.f1.f1,.int .u32 x.f1.f2,.int .i64 x.f2,.int .u8 x.f3,.int .u32 x.f4]
theorem encEntry_any {w w' : World} {base base' : Nat} {ok ok' : Nat → Prop} (p : S62) (c : List Value) (h : k62.M w base ok p c) : k62.M w' base' ok' p c:=by
 obtain rfl:=k62_openM h;exact k62_mkM _ _ _ p
theorem encEntry_open {w : World} {base : Nat} {ok : Nat → Prop} {p : S62} {c : List Value} (h : k62.M w base ok p c) : c = encEntry p:=k62_openM h
theorem encEntry_one (p : S62) (v : Value) (h : v ∈ encEntry p) : v.oneCell' = true:=by
 simp only [encEntry,List.mem_cons,List.not_mem_nil,or_false] at h;rcases h with rfl | rfl | rfl | rfl | rfl | rfl | rfl<;>rfl
set_option maxHeartbeats 8000000 in
set_option maxRecDepth 100000 in
theorem insert_shift (g cap g2 c2 i n : Nat) (cur cur2 : Array Value) (inner : List Value) (x : S62) (w : World) (hlt : i < n) (hroom : n < cap) (hcapm : cap ≤ maxLen) (hne : g2 ≠ g)
 (hheap : w.heap[g]? = some (.cells cur 62 (0,0))) (hcur : cur.size = cap * 7) (htake : cur.toList.take (n * 7) = inner) (hcl : inner.length = n * 7) (h1c : ∀ v ∈ inner,v.oneCell' = true)
 (hheap2 : w.heap[g2]? = some (.cells cur2 62 (0,0))) (hcur2 : 7 ≤ cur2.size) (hx7 : cur2.toList.take 7 = encEntry x) :
 Calls Tryz.prog 101 #[.slice (some ⟨g,0,none⟩) n cap,.int .i64 i,.slice (some ⟨g2,0,none⟩) 1 c2] w fun e w' =>
  e = .returned (.slice (some ⟨g,0,none⟩) (n + 1) cap) ∧ w' = w.drew.setRow g (cur.toList.take (i * 7) ++ encEntry x ++ inner.drop (i * 7) ++ cur.toList.drop ((n + 1) * 7)).toArray:=by
 unfold maxLen at hcapm;have hsz : (Tryz.prog.info? 62).map (·.size) = some 7:=by kernel_rfl
 have hut : Tryz.prog.underlying 24 = some (.slice 62):=Tryz.underlying24;have hov : ∀ lb cb,(callFunc 116 #[.slice (some ⟨g2,0,none⟩) 1 c2,.slice (some ⟨g,(i + 1) * 7,none⟩) lb cb]).run Tryz.prog w = .ok (.value (.bool false)) w:=fun lb cb=>by
  rw [run_callFunc_extern Tryz.func116 (by kernel_rfl) (by kernel_rfl) (by kernel_rfl) (e:=Extern.SlicesOverlaps.overlaps #[24,24] #[4]) (by kernel_rfl),
   Lib.run_overlaps_apart w 24 4 62 hut 7 Tryz.sizeOf62 ⟨g2,0,none⟩ ⟨g,(i + 1) * 7,none⟩ 1 c2 lb cb hne 62 62 cur2.size cur.size (by simp [World.shape?,hheap2]) (by simp [World.shape?,hheap]) (by omega) (yA hheap2 _) (yA hheap2 _)]
  rfl
 have hcp1 : ∀ ty dc sc,(Builtin.copy_ #[24,24] ty #[.slice (some ⟨g,(i + 1) * 7,none⟩) (n - i) dc,.slice (some ⟨g,i * 7,none⟩) (n + 1 - i) sc]).run Tryz.prog w.drew = .ok (goInt (n - i : Nat)) (w.drew.setRow g (cur.toList.take ((i + 1) * 7) ++ inner.drop (i * 7) ++ cur.toList.drop ((i + 1) * 7 + (inner.drop (i * 7)).length)).toArray):=fun ty dc sc =>
  run_copy_rowK w.drew _ _ ty 62 g ((i + 1) * 7) _ dc ⟨g,i * 7,none⟩ _ sc cur 62 (inner.drop (i * 7)) 7 (n - i) hut hsz hheap (by simp only [Nat.min_def];split<;>omega) (by rw [List.length_drop,hcl];omega)
   (fun j v hj=>by
    rw [List.getElem?_drop,← htake,List.getElem?_take] at hj;split at hj
    ·rw [Addr.add_lit];exact (zI (w:=w.drew) hheap _).trans (by rw [← Array.getElem?_toList];exact hj)
    ·cases hj) (by rw [List.length_drop,hcl,hcur];omega) (fun v hv=>h1c v (List.mem_of_mem_drop hv))
 have hlen : (inner.drop (i * 7)).length = (n - i) * 7:=by rw [List.length_drop,hcl];omega
 have hrow : cur.toList.take ((i + 1) * 7) ++ inner.drop (i * 7) ++ cur.toList.drop ((i + 1) * 7 + (inner.drop (i * 7)).length) = cur.toList.take (i * 7) ++ ((cur.toList.drop (i * 7)).take 7 ++ (inner.drop (i * 7) ++ cur.toList.drop ((n + 1) * 7))):=by
  rw [hlen,show (i + 1) * 7 + (n - i) * 7 = (n + 1) * 7 by omega,show (i + 1) * 7 = i * 7 + 7 by omega,List.take_add,List.append_assoc,List.append_assoc]
 rw [hrow] at hcp1;obtain ⟨row1,hrow1⟩ : ∃ row1,row1 = (cur.toList.take (i * 7) ++ ((cur.toList.drop (i * 7)).take 7 ++ (inner.drop (i * 7) ++ cur.toList.drop ((n + 1) * 7)))).toArray:=⟨_,rfl⟩
 rw [← hrow1] at hcp1;have hh1:=setRow_heap w.drew g cur row1 _ _ hheap;have hr1s : row1.size = cap * 7:=by rw [hrow1];simp [hcur,hcl];omega
 have hh2 : (w.drew.setRow g row1).heap[g2]? = some (.cells cur2 62 (0,0)):=(setRow_other _ _ _ _ hne).trans hheap2;have hcp2 : ∀ ty dc,(Builtin.copy_ #[24,24] ty #[.slice (some ⟨g,i * 7,none⟩) (n + 1 - i) dc,.slice (some ⟨g2,0,none⟩) 1 c2]).run Tryz.prog (w.drew.setRow g row1) = .ok (goInt 1) ((w.drew.setRow g row1).setRow g (row1.toList.take (i * 7) ++ encEntry x ++ row1.toList.drop (i * 7 + (encEntry x).length)).toArray):=fun ty dc =>
  run_copy_rowK (w.drew.setRow g row1) _ _ ty 62 g (i * 7) _ dc ⟨g2,0,none⟩ 1 c2 row1 62 (encEntry x) 7 1 hut hsz hh1 (by simp only [Nat.min_def];split<;>omega) rfl
   (fun j v hj=>by
    rw [← hx7,List.getElem?_take] at hj;split at hj
    ·rw [Addr.add_lit,Nat.zero_add];exact (zI hh2 _).trans (by rw [← Array.getElem?_toList];exact hj)
    ·cases hj) (by rw [hr1s];simp [encEntry];omega) (encEntry_one x)
 have hrow2 : row1.toList.take (i * 7) ++ encEntry x ++ row1.toList.drop (i * 7 + (encEntry x).length) = cur.toList.take (i * 7) ++ encEntry x ++ inner.drop (i * 7) ++ cur.toList.drop ((n + 1) * 7):=by
  have hl : (cur.toList.take (i * 7)).length = i * 7:=by simp [hcur];omega
  have hl2 : ((cur.toList.drop (i * 7)).take 7).length = 7:=by simp [hcur];omega
  rw [hrow1,show (encEntry x).length = 7 from rfl];simp only [List.toList_toArray,List.append_assoc];congr 1
  ·rw [List.take_append_of_le_length (by omega),List.take_of_length_le (by omega)]
  ·congr 1;rw [← List.drop_drop,List.drop_left' hl,List.drop_left' hl2]
 rw [hrow2,setRow_setRow] at hcp2;clear hrow hrow2 hh1 hh2 hr1s hlen hsz;generalize (cur.toList.take (i * 7) ++ encEntry x ++ inner.drop (i * 7) ++ cur.toList.drop ((n + 1) * 7)).toArray = ROW at hcp2 ⊢;clear hrow1 hx7 hcur2 hheap2 h1c hcl htake hcur hheap;have hz2 : ¬ ((i : Int) = (n : Int)):=by omega
 have hw1 : IntKind.i64.wrap ((i : Int) + 1) = (i : Int) + 1:=by rw [IntKind.wrap_i64];omega
 have htn : ((i : Int) + 1).toNat = i + 1:=by omega
 have hb1 : (0 : Int) ≤ (i : Int) + 1:=by omega
 have hb2 : ¬ (cap = i + 1):=by omega
 have hb4 : ¬ (cap = i):=by omega
 have hb3 : (i : Int) ≤ (n : Int) + 1:=by omega
 have hin : i ≤ n:=by omega
 go_enter Tryz.func101,Tryz.ntmps101;go_wp2_with (simp only [hov])
 go_region_law (refine step_copy_eq rfl _ _ 24 24 rfl _ _ (by simp [Act.eval,Act.put]) (by simp [Act.eval,Act.put]) (hcp1 _ _ _) ?_);go_wp2_with (at_builtin;refine wpList_copy_eq _ rfl _ _ 24 24 rfl _ _ rfl rfl (hcp2 _ _) ?_)
 go_ret;exact ⟨rfl,rfl⟩
set_option maxHeartbeats 8000000 in
set_option maxRecDepth 100000 in
theorem insert_grow (g g2 c2 i n : Nat) (cur cur2 : Array Value) (inner : List Value) (x : S62) (w : World) (hlt : i < n) (hn2 : n < 4398046511103) (hne : g2 ≠ g)
 (hheap : w.heap[g]? = some (.cells cur 62 (0,0))) (hcur : cur.size = n * 7) (htake : cur.toList.take (n * 7) = inner) (hcl : inner.length = n * 7) (h1c : ∀ v ∈ inner,v.oneCell' = true)
 (hheap2 : w.heap[g2]? = some (.cells cur2 62 (0,0))) (hcur2 : 7 ≤ cur2.size) (hx7 : cur2.toList.take 7 = encEntry x) :
 Calls Tryz.prog 101 #[.slice (some ⟨g,0,none⟩) n n,.int .i64 i,.slice (some ⟨g2,0,none⟩) 1 c2] w fun e w' =>
  ∃ (G : Nat) (row : Array Value),n + 1 ≤ G ∧ G ≤ maxLen ∧ e = .returned (.slice (some ⟨w.heap.size,0,none⟩) (n + 1) G) ∧ row.size = G * 7 ∧ w'.heap[w.heap.size]? = some (.cells row 62 (0,0)) ∧
   row.toList.take ((n + 1) * 7) = inner.take (i * 7) ++ encEntry x ++ inner.drop (i * 7) ∧ Below w.heap.size w w':=by
 obtain ⟨i0,hi0,hz0,hzs,hzb⟩:=info_parts info62;have hsz : (Tryz.prog.info? 62).map (·.size) = some 7:=by rw [hi0];simp [hzs]
 have hut : Tryz.prog.underlying 24 = some (.slice 62):=Tryz.underlying24;have hkk : (n : Int) + 1 - (i : Int) = ((n + 1 - i : Nat) : Int):=by omega
 have hik : i + (n + 1 - i) = n + 1:=by omega
 have hold : (Builtin.firstCells i0.size i (.slice (some ⟨g,0,none⟩) i n)).run Tryz.prog w.drew = .ok (inner.take (i * 7)).toArray w.drew:=by
  rw [hzs];exact run_firstCells_some w.drew 7 i ⟨g,0,none⟩ i n (inner.take (i * 7)) (by rw [List.length_take,hcl];omega) (fun j v hj=>by
   rw [Addr.add_lit,Nat.zero_add];rw [List.getElem?_take,← htake,List.getElem?_take] at hj;split at hj
   ·split at hj
    ·exact (zI (w:=w.drew) hheap _).trans (by rw [← Array.getElem?_toList];exact hj)
    ·cases hj
   ·cases hj)
 have hrz : ∀ ty,(Builtin.append_ #[24,3] ty #[.slice (some ⟨g,0,none⟩) i n,.int .i64 ((n : Int) + 1 - (i : Int))]).run Tryz.prog w =
  .ok (.slice (some ⟨w.heap.size,0,none⟩) (n + 1) (grownCap w (n + 1) n 62)) (w.drew.alloc (.cells ((inner.take (i * 7)).toArray ++ Builtin.zeroCells (Value.agg #[(.int .u8 0),(.int .u8 0),(.int .u32 0),(.int .u32 0),(.int .i64 0),(.int .u8 0),(.int .u32 0)]).cells (n + 1 - i) ++ Builtin.zeroCells (Value.agg #[(.int .u8 0),(.int .u8 0),(.int .u32 0),(.int .u32 0),(.int .i64 0),(.int .u8 0),(.int .u32 0)]).cells (grownCap w (n + 1) n 62 - (n + 1))) 62)):=fun ty=>by
  have h:=Lib.run_append_grow_zeros w 24 3 ty 62 i0 _ .i64 .i64 hut Tryz.underlying3 hi0 hz0 (some ⟨g,0,none⟩) i n (inner.take (i * 7)) hold (n + 1 - i) (by omega) (by omega) (by omega) (by omega) (by rw [hzb];omega) (by rw [hzb,hik];exact growslice_fits (by omega) (by omega));rw [hik] at h;rw [hkk];exact h
 obtain ⟨G,hG⟩ : ∃ G,G = grownCap w (n + 1) n 62:=⟨_,rfl⟩
 have hGn : n + 1 ≤ G:=by rw [hG];exact grownCap_ge w _ _ _
 have hGm : G ≤ maxLen:=by rw [hG];exact grownCap_le_maxLen w (n + 1) n _ (by unfold maxLen;omega)
 obtain ⟨ROW,hROW⟩ : ∃ ROW : Array Value,ROW = (inner.take (i * 7)).toArray ++ Builtin.zeroCells (Value.agg #[(.int .u8 0),(.int .u8 0),(.int .u32 0),(.int .u32 0),(.int .i64 0),(.int .u8 0),(.int .u32 0)]).cells (n + 1 - i) ++ Builtin.zeroCells (Value.agg #[(.int .u8 0),(.int .u8 0),(.int .u32 0),(.int .u32 0),(.int .i64 0),(.int .u8 0),(.int .u32 0)]).cells (G - (n + 1)):=⟨_,rfl⟩
 rw [← hG] at hrz;rw [← hROW] at hrz;have hRs : ROW.size = G * 7:=by
  rw [hROW];simp [Builtin.zeroCells,Value.cells,hcl];omega
 have hRt : ROW.toList.take (i * 7) = inner.take (i * 7):=by
  rw [hROW];simp only [Array.toList_append,List.toList_toArray,List.append_assoc];exact List.take_left' (by rw [List.length_take,hcl];omega)
 clear hROW hG hold;obtain ⟨W1,hW1⟩ : ∃ W1,W1 = w.drew.alloc (.cells ROW 62 (0,0)):=⟨_,rfl⟩
 rw [← hW1] at hrz;have hb1 : Below w.heap.size w W1:=by rw [hW1];exact Below.alloc (Below.drew (zS _ _)) (zM _) _
 have hn1 : W1.heap[w.heap.size]? = some (.cells ROW 62 (0,0)):=by rw [hW1];exact yL w.drew _
 have ho1 : W1.heap[g]? = some (.cells cur 62 (0,0)):=(hb1.block g (blk_lt hheap)).trans hheap;have hv1 : W1.heap[g2]? = some (.cells cur2 62 (0,0)):=(hb1.block g2 (blk_lt hheap2)).trans hheap2;have hgN : g ≠ w.heap.size:=Nat.ne_of_lt (blk_lt hheap);clear hW1;obtain ⟨row1,hrow1⟩ : ∃ row1 : Array Value,row1 = (ROW.toList.take (i * 7) ++ encEntry x ++ ROW.toList.drop (i * 7 + (encEntry x).length)).toArray:=⟨_,rfl⟩
 have hcpA : ∀ ty dc,(Builtin.copy_ #[24,24] ty #[.slice (some ⟨w.heap.size,i * 7,none⟩) (n + 1 - i) dc,.slice (some ⟨g2,0,none⟩) 1 c2]).run Tryz.prog W1 = .ok (goInt 1) (W1.setRow w.heap.size row1):=fun ty dc=>by
  rw [hrow1];exact run_copy_rowK W1 _ _ ty 62 w.heap.size (i * 7) _ dc ⟨g2,0,none⟩ 1 c2 ROW 62 (encEntry x) 7 1 hut hsz hn1 (by simp only [Nat.min_def];split<;>omega) rfl
   (fun j v hj=>by
    rw [← hx7,List.getElem?_take] at hj;split at hj
    ·rw [Addr.add_lit,Nat.zero_add];exact (zI hv1 _).trans (by rw [← Array.getElem?_toList];exact hj)
    ·cases hj) (by rw [hRs];simp [encEntry];omega) (encEntry_one x)
 have hl : (inner.take (i * 7)).length = i * 7:=by rw [List.length_take,hcl];omega
 have h1s : row1.size = G * 7:=by
  rw [hrow1,hRt];simp [encEntry,hcl,hRs];omega
 have h1t : row1.toList.take ((i + 1) * 7) = inner.take (i * 7) ++ encEntry x:=by
  rw [hrow1,hRt,List.toList_toArray,show (i + 1) * 7 = (inner.take (i * 7) ++ encEntry x).length by rw [List.length_append,hl];simp [encEntry];omega];exact List.take_left' rfl
 clear hrow1;obtain ⟨W2,hW2⟩ : ∃ W2,W2 = W1.setRow w.heap.size row1:=⟨_,rfl⟩
 rw [← hW2] at hcpA;have hb2 : Below w.heap.size w W2:=by rw [hW2];exact below_setRow hb1 (zM _) _
 have hn2' : W2.heap[w.heap.size]? = some (.cells row1 62 (0,0)):=by rw [hW2];exact setRow_heap _ _ _ _ _ _ hn1
 have ho2 : W2.heap[g]? = some (.cells cur 62 (0,0)):=(hb2.block g (blk_lt hheap)).trans hheap;clear hW2 hn1 hv1 ho1;obtain ⟨row2,hrow2⟩ : ∃ row2 : Array Value,row2 = (row1.toList.take ((i + 1) * 7) ++ inner.drop (i * 7) ++ row1.toList.drop ((i + 1) * 7 + (inner.drop (i * 7)).length)).toArray:=⟨_,rfl⟩
 have hcpB : ∀ ty dc sc,(Builtin.copy_ #[24,24] ty #[.slice (some ⟨w.heap.size,(i + 1) * 7,none⟩) (n - i) dc,.slice (some ⟨g,i * 7,none⟩) (n - i) sc]).run Tryz.prog W2.drew = .ok (goInt (n - i : Nat)) (W2.drew.setRow w.heap.size row2):=fun ty dc sc=>by
  rw [hrow2];exact run_copy_rowK W2.drew _ _ ty 62 w.heap.size ((i + 1) * 7) _ dc ⟨g,i * 7,none⟩ _ sc row1 62 (inner.drop (i * 7)) 7 (n - i) hut hsz hn2' (by simp only [Nat.min_def];split<;>omega) (by rw [List.length_drop,hcl];omega)
   (fun j v hj=>by
    rw [List.getElem?_drop,← htake,List.getElem?_take] at hj;split at hj
    ·rw [Addr.add_lit];exact (zI (w:=W2.drew) ho2 _).trans (by rw [← Array.getElem?_toList];exact hj)
    ·cases hj) (by rw [List.length_drop,hcl,h1s];omega) (fun v hv=>h1c v (List.mem_of_mem_drop hv))
 have h2s : row2.size = G * 7:=by
  rw [hrow2,h1t];simp [encEntry,hcl,h1s];omega
 have h2t : row2.toList.take ((n + 1) * 7) = inner.take (i * 7) ++ encEntry x ++ inner.drop (i * 7):=by
  rw [hrow2,h1t,List.toList_toArray,show (n + 1) * 7 = (inner.take (i * 7) ++ encEntry x ++ inner.drop (i * 7)).length by simp [encEntry,hcl];omega];exact List.take_left' rfl
 have hb3 : Below w.heap.size w (W2.drew.setRow w.heap.size row2):=below_setRow hb2.drew (zM _) _;have hn3 : (W2.drew.setRow w.heap.size row2).heap[w.heap.size]? = some (.cells row2 62 (0,0)):=setRow_heap _ _ _ _ _ _ hn2';have FIN:=zA (And.intro hGm (And.intro h2s (And.intro hn3 (And.intro h2t hb3))));clear hrow2 h1t h1s hb1 hb2 hb3 hn3 h2s h2t hGm hl hRt hRs hn2' ho2 hx7 hcur2 hheap2 h1c hcl htake hcur hheap hkk hik hi0 hz0 hzs hzb hsz;have hz2 : ¬ ((i : Int) = (n : Int)):=by omega
 have hz3 : (n : Int) < (n : Int) + 1:=by omega
 have hG63 : G ≤ 9223372036854775807:=by have:=FIN.out.1;unfold maxLen at this;omega
 have hw1 : IntKind.i64.wrap ((i : Int) + 1) = (i : Int) + 1:=by rw [IntKind.wrap_i64];omega
 have htn : ((i : Int) + 1).toNat = i + 1:=by omega
 have hb1 : (0 : Int) ≤ (i : Int) + 1:=by omega
 have hGi : ¬ (G = i):=by omega
 have hGim : ¬ (G = i + 1):=by omega
 have hci : ¬ (n = i):=by omega
 have hin : i ≤ n:=by omega
 have hb3 : (i : Int) ≤ (n : Int):=by omega
 go_enter Tryz.func101,Tryz.ntmps101;go_wp2_with (first
  | (at_builtin;refine Lib.wpList_append_run _ rfl _ _ _ _ rfl _ _ rfl rfl _ _ (hrz _) ?_)
  | (at_builtin;refine wpList_copy_eq _ rfl _ _ 24 24 rfl _ _ rfl rfl (hcpA _ _) ?_))
 go_region_law (refine step_copy_eq rfl _ _ 24 24 rfl _ _ (by simp [Act.eval,Act.put]) (by simp [Act.eval,Act.put]) (hcpB _ _ _) ?_);go_wp2;go_ret;exact ⟨G,row2,hGn,FIN.out.1,rfl,FIN.out.2.1,FIN.out.2.2.1,FIN.out.2.2.2.1,FIN.out.2.2.2.2⟩
set_option maxHeartbeats 8000000 in
set_option maxRecDepth 100000 in
theorem slices_Insert_Entry.calls (P0_ : Nat → Prop) (u9000_ : Value) (l0 : List (S62)) (a1 : Int) (P2_ : Nat → Prop) (u9001_ : Value) (l2 : List (S62)) (r : List (S62)) (w0 w : World) (hB : Below w0.heap.size w0 w) (ho0 : Kd.R k62 62 w w0.heap.size P0_ u9000_ l0) (hp0_2 : ∀ k_,P0_ k_ → ¬ P2_ k_) (ho2 : Kd.R k62 62 w w0.heap.size P2_ u9001_ l2) (hp2_0 : ∀ k_,P2_ k_ → ¬ P0_ k_) (h : slices_Insert_Entry.f l0 a1 l2 = some r) :
 Calls Tryz.prog 101 #[u9000_,.int .i64 a1,u9001_] w fun e w'=>∃ v0_ : Value,e = .returned (v0_) ∧ Kd.R k62 62 w' w0.heap.size (fun k_=>((P0_ k_ ∨ P2_ k_) ∨ w.heap.size ≤ k_)) v0_ r ∧ Below w0.heap.size w0 w' ∧ Kept w w' (fun k_=>P0_ k_ ∨ P2_ k_):=by
 unfold slices_Insert_Entry.f at h;rcases l2 with _ | ⟨x,_ | ⟨y,l2⟩⟩
 ·cases h
 case cons.cons=>cases h
 dsimp only at h;by_cases h0 : 0 ≤ a1
 case neg=>rw [if_neg h0] at h;cases h
 rw [if_pos h0] at h;by_cases h1 : a1 ≤ (l0.length : Int)
 case neg=>rw [if_neg h1] at h;cases h
 rw [if_pos h1] at h;by_cases h2 : l0.length < 4398046511103
 case neg=>rw [if_neg h2] at h;cases h
 rw [if_pos h2] at h;obtain ⟨i,rfl⟩:=Int.eq_ofNat_of_zero_le h0;have hr:=zH h;rw [Int.toNat_natCast] at hr;clear h h0;have HO2:=zA ho2;have HO0:=zA ho0;have HB:=zA hB;have HP:=zA hp0_2;have H2:=zA h2;clear hp0_2 hp2_0 hB h2;obtain ⟨A2,c2,rfl⟩:=yJ ho2;rcases ho0.2 with ⟨inner,hown,hreps⟩
 clear ho2 ho0;rw [show ([x] : List S62).length = 1 from rfl] at HO2 ⊢;by_cases hin : i = l0.length
 ·subst hin;rw [List.take_length,List.drop_length] at hr;subst hr;clear h1;rcases hown.2 with ⟨rfl,hn⟩ | ⟨g,cap,cur,rfl,hbase,hheap,hncap,hcapm,hcur,htake⟩
  ·have hl : l0 = []:=List.eq_nil_of_length_eq_zero hn;subst hl;clear hn hreps hown;go_enter Tryz.func101,Tryz.ntmps101;go_wp2_with (at_builtin;refine Kd.R_append_rows k62 (w0:=w0) (Rr:=k62.K w) w0.heap.size rfl _ _ 24 62 _ 32 rfl Tryz.underlying24 info62 rfl (by decide) (by decide) (.slice none 0 0) [] [x] A2 1 c2 (fun k_=>P0_ k_ ∨ w.heap.size ≤ k_) (fun _=>False) rfl rfl ?c1 ?c2 ?c3 (fun _ h=>h.elim) (fun k hk=>.inr hk) ?c4 ?c5 ?c6 ?_)
   case c1=>exact Kd.R_nil _ _ _ _ _
   case c2=>exact (Kd.R_reads' HO2.out).2.2
   case c3=>intro p c h;obtain rfl:=k62_open h;exact k62_mkM _ _ _ p
   case c4=>exact HB.out
   case c5=>exact HB.out.size
   case c6=>simp
   intro v1 w1 hr1 hb1 hg1 hat1;go_wp2;go_ret;exact ⟨_,rfl,yD hr1 (fun k hk=>hk.elim (fun h=>.inl (.inl h)) .inr),hb1,Kept.of_grown (S:=fun k_=>P0_ k_ ∨ P2_ k_) hg1 (Kept.refl _ _) (fun k e=>by simp [Value.ownBlock] at e)⟩
  ·clear hreps hown hbase hheap htake hcur;unfold maxLen at hcapm;rcases Nat.lt_or_ge l0.length cap with hlt | hge
   ·have hne : ¬ cap = l0.length:=by omega
    go_enter Tryz.func101,Tryz.ntmps101;go_wp2_with (at_builtin;refine Kd.R_append_rows k62 (w0:=w0) (Rr:=k62.K w) w0.heap.size rfl _ _ 24 62 _ 32 rfl Tryz.underlying24 info62 rfl (by decide) (by decide) (.slice (some ⟨g,0,none⟩) l0.length cap) l0 [x] A2 1 c2 (fun k_=>P0_ k_ ∨ w.heap.size ≤ k_) (fun _=>False) rfl rfl ?ac1 ?ac2 ?ac3 (fun _ h=>h.elim) (fun k hk=>.inr hk) ?ac4 ?ac5 ?ac6 ?_)
    case ac1=>exact yD HO0.out (fun _ h=>.inl h)
    case ac2=>exact (Kd.R_reads' HO2.out).2.2
    case ac3=>intro p c h;obtain rfl:=k62_open h;exact k62_mkM _ _ _ p
    case ac4=>exact HB.out
    case ac5=>exact HB.out.size
    case ac6=>have:=H2.out;omega
    intro v1 w1 hr1 hb1 hg1 hat1;go_wp2;go_ret;exact ⟨_,rfl,yD hr1 (fun k hk=>hk.elim (fun h=>.inl (.inl h)) .inr),hb1,Kept.of_grown (S:=fun k_=>P0_ k_ ∨ P2_ k_) hg1 (Kept.refl _ _) (fun k e=>.inl (.inl (HO0.out.1 k e)))⟩
   ·obtain rfl : cap = l0.length:=by omega
    clear hge hncap;go_enter Tryz.func101,Tryz.ntmps101;go_wp2_with (at_builtin;refine Kd.R_append_rows k62 (w0:=w0) (Rr:=k62.K w) w0.heap.size rfl _ _ 24 62 _ 32 rfl Tryz.underlying24 info62 rfl (by decide) (by decide) (.slice (some ⟨g,0,none⟩) l0.length l0.length) l0 [x] A2 1 c2 (fun k_=>P0_ k_ ∨ w.heap.size ≤ k_) (fun _=>False) rfl rfl ?bc1 ?bc2 ?bc3 (fun _ h=>h.elim) (fun k hk=>.inr hk) ?bc4 ?bc5 ?bc6 ?_)
    case bc1=>exact yD HO0.out (fun _ h=>.inl h)
    case bc2=>exact (Kd.R_reads' HO2.out).2.2
    case bc3=>intro p c h;obtain rfl:=k62_open h;exact k62_mkM _ _ _ p
    case bc4=>exact HB.out
    case bc5=>exact HB.out.size
    case bc6=>have:=H2.out;omega
    intro v1 w1 hr1 hb1 hg1 hat1;go_wp2;go_ret;exact ⟨_,rfl,yD hr1 (fun k hk=>hk.elim (fun h=>.inl (.inl h)) .inr),hb1,Kept.of_grown (S:=fun k_=>P0_ k_ ∨ P2_ k_) hg1 (Kept.refl _ _) (fun k e=>.inl (.inl (HO0.out.1 k e)))⟩
 ·have hlt : i < l0.length:=by omega
  rcases hown.2 with ⟨rfl,hn⟩ | ⟨g,cap,cur,rfl,hbase,hheap,hncap,hcapm,hcur,htake⟩
  ·omega
  obtain ⟨inner2,hown2,hreps2⟩:=HO2.out.2;rcases hown2.2 with ⟨he,hn2⟩ | ⟨g2,cap2,cur2,he,hbase2,hheap2,hncap2,hcapm2,hcur2,htake2⟩
  ·simp at hn2
  obtain ⟨rfl,rfl⟩ : A2 = some ⟨g2,0,none⟩ ∧ c2 = cap2:=by injection he with h1 _ h3;exact ⟨h1,h3⟩
  clear he;replace hreps : Reps _ 7 l0 inner:=hreps;replace hreps2 : Reps _ 7 [x] inner2:=hreps2;replace hcur : cur.size = cap * 7:=hcur;replace hcur2 : cur2.size = c2 * 7:=hcur2;replace htake : cur.toList.take (l0.length * 7) = inner:=htake;replace htake2 : cur2.toList.take (1 * 7) = inner2:=htake2;have hcl : inner.length = l0.length * 7:=hreps.1;have hin2 : inner2 = encEntry x:=by
   have e:=reps_get hreps2 encEntry (fun p c h=>encEntry_open h) (by decide) x;apply List.ext_getElem?;intro j;by_cases hj : j < 7
   ·rw [e j (by simpa using hj),Nat.mod_eq_of_lt hj,Nat.div_eq_of_lt hj];rfl
   ·rw [List.getElem?_eq_none (by have:=hreps2.1;simp at this;omega),List.getElem?_eq_none (by simp [encEntry];omega)]
  have hne : g2 ≠ g:=fun e=>HP.out g (HO0.out.1 g rfl) (HO2.out.1 g (by rw [e];rfl))
  have hG : P0_ g:=HO0.out.1 g rfl;have hreps3 : ∀ (W : World) (b : Nat) (ok : Nat → Prop),Reps (k62.M W b ok) 7 r (inner.take (i * 7) ++ encEntry x ++ inner.drop (i * 7)):=by
   intro W b ok;rw [← hr];exact reps_ins (hreps.imp_ (fun p c h=>encEntry_any p c h)) (k62_mkM _ _ _ x) rfl (by omega)
  have hrl : r.length = l0.length + 1:=by rw [← hr];simp;omega
  have h1c : ∀ v ∈ inner,v.oneCell' = true:=by
   intro v hv;obtain ⟨j,hj,rfl⟩:=List.getElem_of_mem hv;have e:=reps_get hreps encEntry (fun p c h=>encEntry_open h) (by decide) x j (by rw [← hcl];exact hj);rw [zO hj] at e;exact encEntry_one _ _ (List.mem_of_getElem? e.symm)
  have hx7 : cur2.toList.take 7 = encEntry x:=by rw [← hin2,← htake2]
  rcases Nat.lt_or_ge l0.length cap with hroom | hfull
  ·have hcon:=insert_shift g cap g2 c2 i l0.length cur cur2 inner x w hlt hroom hcapm hne hheap hcur htake hcl h1c hheap2 (by rw [hcur2];simp at hncap2;omega) hx7;refine hcon.mono ?_;rintro e w' ⟨rfl,rfl⟩;have hnew:=setRow_heap w.drew g cur (cur.toList.take (i * 7) ++ encEntry x ++ inner.drop (i * 7) ++ cur.toList.drop ((l0.length + 1) * 7)).toArray _ _ hheap;refine ⟨_,rfl,⟨fun k hk=>.inl (.inl (HO0.out.1 k hk)),_,⟨(hreps3 w 0 P0_).1,.inr ⟨g,cap,_,by rw [hrl],hbase,hnew,by rw [hrl];exact hroom,hcapm,?_,?_⟩⟩,hreps3 _ _ _⟩,?_,?_⟩
   ·show _ = cap * 7;simp [hcur,hcl,encEntry];omega
   ·show List.take (r.length * 7) _ = _;rw [hrl,List.take_append_of_le_length (by simp [hcur,hcl,encEntry];omega),List.take_of_length_le (by simp [hcur,hcl,encEntry];omega),← htake,List.take_take,Nat.min_eq_left (by omega)]
   ·exact below_setRow HB.out.drew hbase _
   ·refine ⟨by simp,fun k hk hn=>?_⟩;exact setRow_other _ _ _ _ (fun e=>hn (.inl (e ▸ hG)))
  ·obtain rfl : cap = l0.length:=by omega
   have hcon:=insert_grow g g2 c2 i l0.length cur cur2 inner x w hlt H2.out hne hheap hcur htake hcl h1c hheap2 (by rw [hcur2];simp at hncap2;omega) hx7;refine hcon.mono ?_;rintro e w' ⟨G,row,hGn,hGm,rfl,hs,hh,ht,hbw⟩;refine ⟨_,rfl,⟨fun k hk=>?_,_,⟨(hreps3 w 0 P0_).1,.inr ⟨w.heap.size,G,row,by rw [hrl],HB.out.size,hh,by rw [hrl];exact hGn,hGm,hs,?_⟩⟩,hreps3 _ _ _⟩,HB.out.trans (hbw.mono HB.out.size),Kept.of_below hbw _⟩
   ·have e:=zH hk;exact .inr (Nat.le_of_eq e)
   ·show List.take (r.length * 7) _ = _;rw [hrl,ht]
end Go.Proofs.YtiminjibcafkaaaGreatDoor.X
