/- Texts that this claim's law comes to, joined by wip/slim.py: TFpfits, TFpure, TFpure2, TFpure3. -/
import Derived.Test.YtiminjibcafkaaaGreatDoorTGTAJ43
import Derived.Test.YtiminjibcafkaaaGreatDoorTGJ37
import Derived.Test.YtiminjibcafkaaaGreatDoorTGTFsrcdue
import Derived.Test.YtiminjibcafkaaaGreatDoorTGTFans
import Derived.Test.YtiminjibcafkaaaGreatDoorTGTFpfind
set_option linter.unusedSimpArgs false
set_option linter.unusedVariables false
section
namespace Go.Proofs.YtiminjibcafkaaaGreatDoor.X
open Go.RowKit Go.Shelf Go.Proofs.YtiminjibcafkaaaGreatDoorW.PrintWords Go.Proofs.YtiminjibcafkaaaGreatDoorW.PrintLast Go.Proofs.YtiminjibcafkaaaGreatDoorW.PrintMore
theorem rightL_filter (p : S62 → Bool) : ∀ l : List S62,rightL l = true → rightL (l.filter p) = true
 | [],_=>rfl
 | x :: l,h=>by
  obtain ⟨h1,h2,h3⟩:=rightL_cons x l h;have ih:=rightL_filter p l h2;by_cases hp : p x = true
  ·rw [List.filter_cons_of_pos hp];exact rightL_of x _ h1 ih (fun y hy=>h3 y (List.mem_filter.1 hy).1)
  ·rw [List.filter_cons_of_neg hp];exact ih
theorem rightL_take : ∀ (l : List S62) (n : Nat),rightL l = true → rightL (l.take n) = true
 | [],n,_=>by simp;rfl
 | x :: l,0,_=>rfl
 | x :: l,n + 1,h=>by
  obtain ⟨h1,h2,h3⟩:=rightL_cons x l h;exact rightL_of x _ h1 (rightL_take l n h2) (fun y hy=>h3 y (List.mem_of_mem_take hy))
theorem rightL_map (f : S62 → S62) (hf : ∀ x,(f x).f0 = x.f0) (hr : ∀ x,rightE x = true → rightE (f x) = true) : ∀ l : List S62,rightL l = true → rightL (l.map f) = true
 | [],_=>rfl
 | x :: l,h=>by
  obtain ⟨h1,h2,h3⟩:=rightL_cons x l h;refine rightL_of _ _ (hr x h1) (rightL_map f hf hr l h2) (fun y hy=>?_);obtain ⟨z,hz,rfl⟩:=List.mem_map.1 hy;rw [hf,hf];exact h3 z hz
theorem rightL_pairs : ∀ l : List S62,rightL l = true → l.Pairwise (fun a b=>a.f0 < b.f0)
 | [],_=>List.Pairwise.nil
 | x :: l,h=>by
  obtain ⟨h1,h2,h3⟩:=rightL_cons x l h;exact List.Pairwise.cons h3 (rightL_pairs l h2)
theorem rightL_mem : ∀ l : List S62,rightL l = true → ∀ x ∈ l,rightE x = true
 | [],_,x,hx=>by cases hx
 | y :: l,h,x,hx=>by
  obtain ⟨h1,h2,h3⟩:=rightL_cons y l h;rcases List.mem_cons.1 hx with rfl | hx
  ·exact h1
  ·exact rightL_mem l h2 x hx
theorem rightE_lt (x : S62) (h : rightE x = true) : x.f0 < 64:=by
 unfold rightE at h;simp only [zZ,yH] at h;exact h.2.1
theorem fadeV_right (x : S62) (h : rightE x = true) : rightE (fadeV x) = true:=by
 unfold fadeV;by_cases h1 : x.f2 = 1
 ·rw [if_pos h1];unfold rightE at h ⊢;rw [if_pos h1] at h;simp only [zZ,yH] at h ⊢;refine ⟨h.1,h.2.1,?_⟩;have:=h.2.2;simp;omega
 ·rw [if_neg h1];exact h
theorem ansV_f0 (fil : Int) (x : S62) : (ansV fil x).f0 = x.f0:=by
 unfold ansV;split
 ·rfl
 ·exact fadeV_f0 x
theorem fadeV_f1 (x : S62) : (fadeV x).f1 = x.f1:=by unfold fadeV;split<;>rfl
theorem ansV_f1 (fil : Int) (x : S62) : (ansV fil x).f1 = x.f1:=by
 unfold ansV;split
 ·rfl
 ·exact fadeV_f1 x
theorem ansV_right (fil : Int) (x : S62) (h : rightE x = true) : rightE (ansV fil x) = true:=by
 unfold ansV;split
 ·exact h
 ·exact fadeV_right x h
theorem fadeV_ok (x : S62) (h : Ok_Entry x) : Ok_Entry (fadeV x):=by
 unfold fadeV;split
 ·obtain ⟨h1,h2,h3,h4,h5⟩:=h;exact ⟨h1,h2,(by show In64 2;unfold In64;omega),h4,(by show In32 0;unfold In32;omega)⟩
 ·exact h
theorem ansV_ok (fil : Int) (x : S62) (h : Ok_Entry x) : Ok_Entry (ansV fil x):=by
 unfold ansV;split
 ·exact h
 ·exact fadeV_ok x h
theorem nextI_nextB (f : S62 → S62) (hf : ∀ x,(f x).f0 = x.f0) (cur : Int) (l : List S62) : nextI cur l = nextB cur (l.map f):=by
 rcases List.eq_nil_or_concat l with rfl | ⟨l',x,rfl⟩
 ·rfl
 ·rw [List.concat_eq_append,nextI_snoc];unfold nextB;have hlen : ((l' ++ [x]).map f).length = l'.length + 1:=by simp
  rw [if_pos (by omega),hlen,Nat.add_sub_cancel];have : ((l' ++ [x]).map f).getD l'.length z62 = f x:=by simp
  rw [this,hf]
theorem dueB_iff (cur : Int) (kn : List S67) (x : S62) : dueB cur kn x = true ↔ cur ≤ x.f0 ∧ kn.any (inRun x.f1.f0 x.f1.f1) = false:=by
 unfold dueB;simp
theorem due_rest (cur : Int) (kn : List S67) (l : List S62) (hl : rightL l = true) (hp : ∀ x ∈ l,0 ≤ x.f0) (hn : 4 < (l.filter (dueB cur kn)).length) :
 l.filter (dueB (nextI cur ((l.filter (dueB cur kn)).take 4)) kn) = (l.filter (dueB cur kn)).drop 4 ∧ nextI cur ((l.filter (dueB cur kn)).take 4) < 64 ∧ 0 ≤ nextI cur ((l.filter (dueB cur kn)).take 4):=by
 have hD:=rightL_filter (dueB cur kn) l hl;have hm : ∀ x ∈ l.filter (dueB cur kn),0 ≤ x.f0 ∧ cur ≤ x.f0:=fun x hx=>⟨hp x (List.mem_filter.1 hx).1,((dueB_iff _ _ _).1 (List.mem_filter.1 hx).2).1⟩
 have hll : ∀ n : Int,cur ≤ n → l.filter (dueB n kn) = (l.filter (dueB cur kn)).filter (fun y=>decide (n ≤ y.f0)):=by
  intro n hcn;rw [List.filter_filter];congr 1;funext y;unfold dueB;by_cases h1 : n ≤ y.f0
  ·rw [zE h1,zE (show cur ≤ y.f0 by omega)];simp
  ·rw [zF h1];simp
 generalize l.filter (dueB cur kn) = D at hn hD hm hll ⊢;have hpw:=rightL_pairs D hD;have hE:=rightL_mem D hD;have e3 : D.take 4 = D.take 3 ++ [D[3]]:=by rw [← List.take_succ_eq_append_getElem (by omega)]
 have h3 : D[3] ∈ D:=List.getElem_mem _;have h4 : D[4] ∈ D:=List.getElem_mem _;have hlt : D[3].f0 < D[4].f0:=List.pairwise_iff_getElem.1 hpw 3 4 (by omega) (by omega) (by omega);have h64:=rightE_lt _ (hE _ h4);have hnx : nextI cur (D.take 4) = D[3].f0 + 1:=by
  rw [e3,nextI_snoc];have:=(hm _ h3).1;omega
 refine ⟨?_,by rw [hnx];omega,by rw [hnx];have:=(hm _ h3).1;omega⟩;rw [hnx,hll _ (by have:=(hm _ h3).2;omega)];have hsplit : ∀ q : S62 → Bool,D.filter q = (D.take 4).filter q ++ (D.drop 4).filter q:=fun q=>by rw [← List.filter_append,List.take_append_drop]
 rw [hsplit];have k1 : (D.take 4).filter (fun y=>decide (D[3].f0 + 1 ≤ y.f0)) = []:=by
  rw [List.filter_eq_nil_iff];intro y hy;obtain ⟨i,hi,rfl⟩:=List.mem_iff_getElem.1 hy;have hi' : i < 4:=by simp at hi;omega
  rw [List.getElem_take];simp only [yH];rcases Nat.lt_or_ge i 3 with h | h
  ·have:=List.pairwise_iff_getElem.1 hpw i 3 (by omega) (by omega) h;omega
  ·have : i = 3:=by omega
   subst this;omega
 have k2 : (D.drop 4).filter (fun y=>decide (D[3].f0 + 1 ≤ y.f0)) = D.drop 4:=by
  rw [List.filter_eq_self];intro y hy;obtain ⟨i,hi,rfl⟩:=List.mem_iff_getElem.1 hy;rw [List.getElem_drop];simp only [yH];have hi' : 4 + i < D.length:=by simp at hi;omega
  have:=List.pairwise_iff_getElem.1 hpw 3 (4 + i) (by omega) hi' (by omega);omega
 rw [k1,k2,List.nil_append]
theorem drop_ok (l : List S67) (hl : l.length ≤ 400000) (ok : ∀ z ∈ l,Ok_Run z) (r n : Int) (hr : In8 r) (hn : In32 n) : (∀ z ∈ (dropF r n l).1,Ok_Run z) ∧ (dropF r n l).1.length ≤ 900 ∧ ((dropF r n l).2 = none → rightK (dropF r n l).1 = true):=by
 have h:=drop_facts l hl ok r n hr hn 0 0;exact ⟨h.2.1,h.1,fun e=>(h.2.2 (by show (dropF r n l).2.isNone = true;rw [e];rfl)).1⟩
theorem heldB_iff (rep seq fil : Int) (kn : List S67) (l : List S62) : ∀ d i,heldB rep seq fil kn l d i = true ↔ ∀ j,i ≤ j → j < i + d → badB rep seq fil kn l j = false
 | 0,i=>⟨fun _ j h1 h2=>absurd h2 (by omega),fun _=>rfl⟩
 | d + 1,i=>by
  unfold heldB;by_cases h : badB rep seq fil kn l i = true
  ·rw [if_pos h];exact ⟨fun h'=>(by cases h'),fun h'=>(by rw [h' i (zM _) (by omega)] at h;cases h)⟩
  ·rw [if_neg h,heldB_iff rep seq fil kn l d (i + 1)];refine ⟨fun h' j h1 h2=>?_,fun h' j h1 h2=>h' j (by omega) (by omega)⟩;rcases Nat.eq_or_lt_of_le h1 with rfl | h3
   ·simpa using h
   ·exact h' j h3 (by omega)
end Go.Proofs.YtiminjibcafkaaaGreatDoor.X
end
section
namespace Go.Proofs.YtiminjibcafkaaaGreatDoor.X
open Go.RowKit Go.Shelf Go.Proofs.YtiminjibcafkaaaGreatDoorW.PrintWords Go.Proofs.YtiminjibcafkaaaGreatDoorW.PrintLast Go.Proofs.YtiminjibcafkaaaGreatDoorW.PrintMore
theorem c3_neg (x y z : Int) : c3 x y z < 0 ↔ x < y ∨ (x = y ∧ z < 0):=by unfold c3;repeat' split<;>omega
theorem cmpV_neg (a b : S60) : cmpV a b < 0 ↔ a.f2 < b.f2 ∨ (a.f2 = b.f2 ∧ (a.f0 < b.f0 ∨ (a.f0 = b.f0 ∧ a.f1 < b.f1))):=by unfold cmpV;simp only [c3_neg];omega
def Holds (hd : List S62) (y : S62) : Prop:=∃ x ∈ hd,x.f0 = y.f0 ∧ ¬ cmpV x.f1 y.f1 < 0
theorem insE_new (e : S62) : ∀ l : List S62,∃ x ∈ insE l e,x.f0 = e.f0 ∧ ¬ cmpV x.f1 e.f1 < 0
 | []=>⟨e,by simp [insE],rfl,by rw [cmpV_neg];omega⟩
 | x :: l=>by
  unfold insE;by_cases h1 : x.f0 < e.f0
  ·rw [if_pos h1];obtain ⟨z,hz,h⟩:=insE_new e l;exact ⟨z,List.mem_cons_of_mem _ hz,h⟩
  ·rw [if_neg h1];by_cases h2 : x.f0 = e.f0
   ·rw [if_pos h2];refine ⟨_,List.mem_cons_self,?_⟩;unfold updE;by_cases h3 : cmpV x.f1 e.f1 < 0
    ·rw [if_pos h3];exact ⟨rfl,by rw [cmpV_neg];omega⟩
    ·rw [if_neg h3];have hx : x.f0 = e.f0 ∧ ¬ cmpV x.f1 e.f1 < 0:=⟨h2,h3⟩
     have he : e.f0 = e.f0 ∧ ¬ cmpV e.f1 e.f1 < 0:=⟨rfl,by rw [cmpV_neg];omega⟩
     repeat' split
     all_goals first | exact hx | exact he
   ·rw [if_neg h2];exact ⟨e,List.mem_cons_self,rfl,by rw [cmpV_neg];omega⟩
theorem insE_old (e y : S62) : ∀ l : List S62,y ∈ l → ∃ x ∈ insE l e,x.f0 = y.f0 ∧ ¬ cmpV x.f1 y.f1 < 0
 | [],h=>by cases h
 | x :: l,h=>by
  have hr : ¬ cmpV y.f1 y.f1 < 0:=by rw [cmpV_neg];omega
  unfold insE;by_cases h1 : x.f0 < e.f0
  ·rw [if_pos h1];rcases List.mem_cons.1 h with rfl | h
   ·exact ⟨y,List.mem_cons_self,rfl,hr⟩
   ·obtain ⟨z,hz,h⟩:=insE_old e y l h;exact ⟨z,List.mem_cons_of_mem _ hz,h⟩
  ·rw [if_neg h1];by_cases h2 : x.f0 = e.f0
   ·rw [if_pos h2];rcases List.mem_cons.1 h with rfl | h
    ·refine ⟨_,List.mem_cons_self,?_⟩;unfold updE;by_cases h3 : cmpV y.f1 e.f1 < 0
     ·rw [if_pos h3];exact ⟨h2.symm,by rw [cmpV_neg] at *;omega⟩
     ·rw [if_neg h3];have hx : y.f0 = y.f0 ∧ ¬ cmpV y.f1 y.f1 < 0:=⟨rfl,hr⟩
      by_cases h4 : cmpV y.f1 e.f1 = 0
      ·have he : e.f0 = y.f0 ∧ ¬ cmpV e.f1 y.f1 < 0:=⟨h2.symm,by rw [cmpV_zero] at h4;rw [cmpV_neg];omega⟩
       repeat' split
       all_goals first | exact hx | exact he
      ·rw [if_neg h4];exact hx
    ·exact ⟨y,List.mem_cons_of_mem _ h,rfl,hr⟩
   ·rw [if_neg h2];exact ⟨y,List.mem_cons_of_mem _ h,rfl,hr⟩
theorem Holds.ins {hd : List S62} {y : S62} (h : Holds hd y) (e : S62) : Holds (insE hd e) y:=by
 obtain ⟨x,hx,h1,h2⟩:=h;obtain ⟨z,hz,h3,h4⟩:=insE_old e x hd hx;exact ⟨z,hz,h3.trans h1,by rw [cmpV_neg] at *;omega⟩
theorem Holds.like {hd : List S62} {x y : S62} (h : Holds hd x) (h0 : x.f0 = y.f0) (h1 : x.f1 = y.f1) : Holds hd y:=by
 obtain ⟨z,hz,h3,h4⟩:=h;exact ⟨z,hz,h3.trans h0,h1 ▸ h4⟩
structure Grow (kn : List S67) (hd : List S62) (kn1 : List S67) (hd1 : List S62) (ys : List S62) : Prop where
 mem : ∀ a b,Mem kn1 a b → Mem kn a b ∨ ∃ y ∈ ys,y.f1.f0 = a ∧ y.f1.f1 = b
 sub : ∀ a b,Mem kn a b → Mem kn1 a b
 new : ∀ y ∈ ys,Holds hd1 y
 old : ∀ y,Holds hd y → Holds hd1 y
theorem addF_err (r n : Int) (kn : List S67) (c : Int) (h : (addF r n kn).2 = some c) : c = 5 ∨ c = 9:=by
 unfold addF fin at h;split at h
 ·split at h
  ·cases h;exact .inl rfl
  ·cases h
 ·cases h;exact .inr rfl
theorem unionF_err (x y : List S67) (c : Int) (h : (unionF x y).2 = some c) : c = 5 ∨ c = 9:=by
 unfold unionF fin at h;split at h
 ·split at h
  ·cases h;exact .inl rfl
  ·cases h
 ·cases h;exact .inr rfl
theorem putP_err (kn : List S67) (hd : List S62) (y : S62) (g : Bool) (c : Int) (h : putP kn hd y g = .inl c) : c = 5 ∨ c = 9:=by
 unfold putP at h;split at h
 ·cases h
 ·split at h
  ·cases h
  ·rename_i e;cases h;exact addF_err _ _ _ _ e
theorem putP_grow (kn : List S67) (hd : List S62) (y : S62) (g : Bool) (kn1 : List S67) (hd1 : List S62) (h : putP kn hd y g = .inr (kn1,hd1)) : Grow kn hd kn1 hd1 [y]:=by
 have hn : ∀ z ∈ [y],Holds (insE hd y) z:=fun z hz=>by
  rw [List.mem_singleton] at hz;subst hz;exact insE_new z hd
 unfold putP at h;split at h
 ·cases h;exact ⟨fun a b h=>.inl h,fun a b h=>h,hn,fun z hz=>hz.ins y⟩
 ·split at h
  ·rename_i e;cases h;unfold addF at e ⊢;split at e
   ·rename_i hc;rw [if_pos hc];obtain ⟨e1,hl⟩:=fin_snd (addR y.f1.f0 y.f1.f1 kn) (by rw [e];rfl);rw [e1];rw [zZ] at hc;obtain ⟨s1,s2⟩:=addR_spec y.f1.f0 y.f1.f1 kn ((rightK_iff kn).1 hc.1).1 hc.2;refine ⟨fun a b h=>?_,fun a b h=>(s2 a b).2 (.inl h),hn,fun z hz=>hz.ins y⟩;rcases (s2 a b).1 h with h | ⟨rfl,rfl⟩
    ·exact .inl h
    ·exact .inr ⟨y,List.mem_singleton.2 rfl,rfl,rfl⟩
   ·cases e
  ·cases h
theorem fadeE_f0 (x : S62) : (fadeE x).f0 = x.f0:=by unfold fadeE;split<;>rfl
theorem fadeE_f1 (x : S62) : (fadeE x).f1 = x.f1:=by unfold fadeE;split<;>rfl
theorem stepP_err (a1 : Int) (kn : List S67) (hd : List S62) (x : S62) (c : Int) (h : stepP a1 kn hd x = .inl c) : c = 5 ∨ c = 9:=by
 unfold stepP at h;split at h<;>exact putP_err _ _ _ _ _ h
theorem stepP_grow (a1 : Int) (kn : List S67) (hd : List S62) (x : S62) (kn1 : List S67) (hd1 : List S62) (h : stepP a1 kn hd x = .inr (kn1,hd1)) : Grow kn hd kn1 hd1 [x]:=by
 unfold stepP at h;split at h
 ·exact putP_grow _ _ _ _ _ _ h
 ·obtain ⟨h1,h2,h3,h4⟩:=putP_grow _ _ _ _ _ _ h;refine ⟨fun a b hm=>?_,h2,fun y hy=>?_,h4⟩
  ·rcases h1 a b hm with hm | ⟨y,hy,e1,e2⟩
   ·exact .inl hm
   ·rw [List.mem_singleton] at hy;subst hy;rw [fadeE_f1] at e1 e2;exact .inr ⟨x,List.mem_singleton.2 rfl,e1,e2⟩
  ·rw [List.mem_singleton] at hy;subst hy;exact (h3 _ (List.mem_singleton.2 rfl)).like (fadeE_f0 y) (fadeE_f1 y)
theorem Grow.trans {kn kn1 kn2 : List S67} {hd hd1 hd2 : List S62} {x : S62} {ys : List S62} (g : Grow kn hd kn1 hd1 [x]) (h : Grow kn1 hd1 kn2 hd2 ys) : Grow kn hd kn2 hd2 (x :: ys):=by
 refine ⟨fun a b hm=>?_,fun a b hm=>h.sub a b (g.sub a b hm),fun y hy=>?_,fun y hy=>h.old y (g.old y hy)⟩
 ·rcases h.mem a b hm with hm | ⟨y,hy,e⟩
  ·rcases g.mem a b hm with hm | ⟨y,hy,e⟩
   ·exact .inl hm
   ·exact .inr ⟨y,List.mem_cons.2 (.inl (List.mem_singleton.1 hy)),e⟩
  ·exact .inr ⟨y,List.mem_cons_of_mem _ hy,e⟩
 ·rcases List.mem_cons.1 hy with rfl | hy
  ·exact h.old _ (g.new _ (List.mem_singleton.2 rfl))
  ·exact h.new y hy
theorem drop_consE (l : List S62) (i : Nat) (h : i < l.length) : l.drop i = l.getD i z62 :: l.drop (i + 1):=by
 rw [List.drop_eq_getElem_cons h,yG,zO h];rfl
theorem folds2 (k : Nat) (hk : 90000 < k) (a1 : Int) (hf : In8 a1) (m8 : List S62) (r8 : rightL m8 = true) (o8 : ∀ z ∈ m8,Ok_Entry z) : ∀ d i n kn hd,i + d = m8.length → n + d ≤ 800 → Inv kn hd n →
 ∃ r,tfold k a1 m8 d kn hd i = some r ∧ (match r with | .inl c=>c = 5 ∨ c = 9 | .inr s=>Inv s.1 s.2 (n + d) ∧ Grow kn hd s.1 s.2 (m8.drop i))
 | 0,i,n,kn,hd,hi,hn,I=>⟨.inr (kn,hd),rfl,I,by
  rw [List.drop_eq_nil_of_le (by omega)];exact ⟨fun a b h=>.inl h,fun a b h=>h,fun y hy=>(by cases hy),fun y h=>h⟩⟩
 | d + 1,i,n,kn,hd,hi,hn,I=>by
  have hm:=getD_mem m8 i z62 (by omega);have rx : rightE (m8.getD i z62) = true:=by
   have:=(rightL_iff m8).1 r8 i (by omega);unfold okB at this;rw [zZ] at this;exact this.1
  have ox:=o8 _ hm;unfold tfold;rw [tstep_is k hk a1 hf kn hd n (by omega) I _ rx ox];have hp:=stepP_err a1 kn hd (m8.getD i z62);have hi2:=stepP_inv k hk a1 hf kn hd n (by omega) I _ rx ox;have hg:=stepP_grow a1 kn hd (m8.getD i z62);generalize stepP a1 kn hd (m8.getD i z62) = s at hp hi2 hg;cases s with
  | inl c=>exact ⟨.inl c,rfl,hp c rfl⟩
  | inr s =>
   obtain ⟨kn1,hd1⟩:=s;obtain ⟨r,e1,e3⟩:=folds2 k hk a1 hf m8 r8 o8 d (i + 1) (n + 1) kn1 hd1 (by omega) (by omega) (hi2 kn1 hd1 rfl);refine ⟨r,e1,?_⟩;cases r with
   | inl c=>exact e3
   | inr s =>
    rw [show n + (d + 1) = n + 1 + d by omega,drop_consE m8 i (by omega)];exact ⟨e3.1,(hg kn1 hd1 rfl).trans e3.2⟩
theorem offer5 (k : Nat) (fil : Int) (hf : In8 fil) (hk : 2000 < k) : ∀ (l : List S62) (out : List S67),(∀ z ∈ l,Ok_Entry z) → (∀ z ∈ l,rightE z = true) → (∀ z ∈ out,Ok_Run z) → out.length ≤ 900 → rightK out = true →
 source_offer.l0 k fil l out = some ([],some 5) ∨ ∃ l',source_offer.l0 k fil l out = some (l',none) ∧ rightK l' = true ∧ l'.length ≤ 900 ∧ ∀ z ∈ l',Ok_Run z
 | [],out,_,_,ok,hl,hr=>.inr ⟨out,by simp only [source_offer.l0,slices_Clone_Run.f];rw [if_pos (by omega)];rfl,hr,hl,ok⟩
 | x :: l,out,okl,okr,ok,hl,hr=>by
  obtain ⟨o0,o1,o2,o3,o4⟩:=okl x (by simp);have hx : Ok_Entry x:=⟨o0,o1,o2,o3,o4⟩
  have hq : ∀ z ∈ l,Ok_Entry z:=fun z hz=>okl z (List.mem_cons_of_mem _ hz)
  have hqr : ∀ z ∈ l,rightE z = true:=fun z hz=>okr z (List.mem_cons_of_mem _ hz)
  have hrx:=okr x (by simp);have hrun : runB ⟨x.f1.f0,x.f1.f1,x.f1.f1⟩ = true:=by
   unfold rightE rv at hrx;simp only [zZ,yH] at hrx;rw [runB_iff];exact ⟨hrx.1.1,hrx.1.2.1,Int.le_refl _⟩
  simp only [source_offer.l0];have hin : ∃ b,(if x.f2 = 2 then item_In.f x.f0 x.f1.f0 x.f1.f1 x.f1.f2 x.f2 x.f3 x.f4 fil else some false) = some b:=by
   split
   ·exact ⟨_,In_is x hx fil hf⟩
   ·exact ⟨_,rfl⟩
  obtain ⟨b,hb⟩:=hin;rw [hb];simp only [zW];cases b with
  | false =>
   rw [if_neg (by decide)];exact offer5 k fil hf hk l out hq hqr ok hl hr
  | true =>
   rw [if_pos rfl,DropK_is out (by omega) ok x.f1.f0 x.f1.f1 o1.2.1 k (by omega)];obtain ⟨d1,d2,d3⟩:=drop_ok out (by omega) ok x.f1.f0 x.f1.f1 o1.1 o1.2.1;have d4 : ∀ c,(dropF x.f1.f0 x.f1.f1 out).2 = some c → c = 5:=fun c h=>by
    unfold dropF at h;rw [hr,hrun,if_pos (by rfl)] at h;unfold fin at h;split at h
    ·cases h;rfl
    ·cases h
   show ((some (dropF x.f1.f0 x.f1.f1 out)).bind fun p=>match p.2 with
    | some c=>some ([],some c)
    | none=>source_offer.l0 k fil l p.1) = some ([],some 5) ∨ ∃ l',((some (dropF x.f1.f0 x.f1.f1 out)).bind fun p=>match p.2 with
    | some c=>some ([],some c)
    | none=>source_offer.l0 k fil l p.1) = some (l',none) ∧ _
   generalize dropF x.f1.f0 x.f1.f1 out = p at d1 d2 d3 d4;obtain ⟨p1,p2⟩:=p;cases p2 with
   | some c =>
    obtain rfl:=d4 c rfl;exact .inl rfl
   | none=>exact offer5 k fil hf hk l p1 hq hqr d1 d2 (d3 rfl)
theorem nextI_gt (cur : Int) (l : List S62) (h : rightL l = true) (hp : ∀ x ∈ l,0 ≤ x.f0) : ∀ y ∈ l,y.f0 < nextI cur l:=by
 have hw:=rightL_pairs l h;have hE:=rightL_mem l h;intro y hy;rcases List.eq_nil_or_concat l with rfl | ⟨l',x,rfl⟩
 ·cases hy
 ·rw [List.concat_eq_append] at *;rw [nextI_snoc];have hx : x ∈ l' ++ [x]:=by simp
  have h1:=rightE_lt x (hE x hx);have h2:=hp x hx;rcases List.mem_append.1 hy with hy | hy
  ·have:=(List.pairwise_append.1 hw).2.2 y hy x (by simp);omega
  ·rw [List.mem_singleton] at hy;subst hy;omega
section
variable (a0 a1 a2 a3 : Int) (l4 : List S67) (l5 : List S62) (a6 : Bool) (a7 a8 a9 a10 : Int) (l11 : List S67) (a12 : Int)
variable (b0 b1 b2 b3 b4 b5 : Int) (m6 : List S67) (b7 : Int) (m8 : List S62) (b9 : Int) (b10 : Bool) (m11 : List S67)
theorem check_is (h4 : l4.length ≤ 300) (h5 : l5.length ≤ 300) (h11 : l11.length ≤ 300) (ok4 : ∀ z ∈ l4,Ok_Run z) (ok5 : ∀ z ∈ l5,Ok_Entry z) (ok11 : ∀ z ∈ l11,Ok_Run z) (hf : In8 a1)
 (n6 : m6.length ≤ 300) (n8 : m8.length ≤ 300) (n11 : m11.length ≤ 300) (pk6 : ∀ z ∈ m6,Ok_Run z) (pk8 : ∀ z ∈ m8,Ok_Entry z) (pk11 : ∀ z ∈ m11,Ok_Run z)
 (hR : repB a0 a1 a2 a3 l4 l5 a6 a7 a8 a9 a10 l11 a12 = true) (hN : noteB b0 b1 b2 b3 b4 b5 m6 b7 m8 b9 b10 m11 = true) (h1 : b0 = 1) (h2 : b2 = a0) :
 source_check.f 100000 a0 a1 a2 a3 l4 l5 a6 a7 a8 a9 a10 l11 a12 b0 b1 b2 b3 b4 b5 m6 b7 m8 b9 b10 m11 = some none:=by
 unfold source_check.f;rw [rep_is 100000 a0 a1 a2 a3 l4 l5 a6 a7 a8 a9 a10 l11 a12 (by omega) (by omega) (by omega) ok4 ok5 ok11 hf (by omega) (by omega) (by omega),note_is 100000 b0 b1 b2 b3 b4 b5 m6 b7 m8 b9 b10 m11 (by omega) (by omega) (by omega) pk6 pk8 pk11 (by omega) (by omega) (by omega),hR,hN];simp only [zW,if_true];rw [if_pos h1,if_pos h2]
theorem rep_apart (hR : repB a0 a1 a2 a3 l4 l5 a6 a7 a8 a9 a10 l11 a12 = true) : ∀ x ∈ l5,∀ y ∈ l5,x.f1.f0 = y.f1.f0 → x.f1.f1 = y.f1.f1 → x.f0 = y.f0:=by
 unfold repB at hR;simp only [zZ] at hR;have hH:=(heldB_iff a0 a3 a1 l4 l5 l5.length 0).1 hR.2.2.2.2.2;have key : ∀ i j,i < j → j < l5.length → ¬ ((l5.getD i z62).f1.f0 = (l5.getD j z62).f1.f0 ∧ (l5.getD i z62).f1.f1 = (l5.getD j z62).f1.f1):=by
  intro i j hij hj hh;have:=hH j (by omega) (by omega);unfold badB at this;simp only [Bool.or_eq_false_iff] at this;have h2:=this.1.2;rw [List.any_eq_false] at h2;have hm : l5.getD i z62 ∈ l5.take j:=by
   rw [← take_getD l5 i j hij];exact getD_mem _ i z62 (by rw [List.length_take];omega)
  exact h2 _ hm (by rw [← twin5_is];exact (twin5_iff _ _ _).2 hh)
 intro x hx y hy e1 e2;obtain ⟨i,hi,rfl⟩:=List.getElem_of_mem hx;obtain ⟨j,hj,rfl⟩:=List.getElem_of_mem hy;have gi : l5.getD i z62 = l5[i]:=by rw [yG,zO hi];rfl
 have gj : l5.getD j z62 = l5[j]:=by rw [yG,zO hj];rfl
 rcases Nat.lt_trichotomy i j with h | h | h
 ·exact absurd ⟨by rw [gi,gj];exact e1,by rw [gi,gj];exact e2⟩ (key i j h hj)
 ·subst h;rfl
 ·exact absurd ⟨by rw [gi,gj];exact e1.symm,by rw [gi,gj];exact e2.symm⟩ (key j i h hi)
end
end Go.Proofs.YtiminjibcafkaaaGreatDoor.X
end
section
namespace Go.Proofs.YtiminjibcafkaaaGreatDoor.X
open Go.RowKit Go.Shelf Go.Proofs.YtiminjibcafkaaaGreatDoorW.PrintWords Go.Proofs.YtiminjibcafkaaaGreatDoorW.PrintLast Go.Proofs.YtiminjibcafkaaaGreatDoorW.PrintMore
def dueL (k5 : List S62) (cur : Int) (kn : List S67) : List S62:=k5.filter (dueB cur kn)
structure Fet (s2 : Int) (k5 : List S62) (D : List S62) (m : Nat) (cur ep : Int) (of kn : List S67) (hd : List S62) : Prop where
 cu : 0 ≤ cur ∧ cur < 64
 ep : 0 < cur → ep = s2
 rest : dueL k5 cur kn = D.drop m
 ml : m ≤ D.length
 inv : Inv kn hd (300 + m)
 held : ∀ y ∈ D.take m,Holds hd y
 ofl : of.length ≤ 300
 ofo : ∀ z ∈ of,Ok_Run z
section
variable (s0 s1 s2 s3 : Int) (k4 : List S67) (k5 : List S62) (s6 : Bool) (s7 s8 s9 s10 : Int) (k11 : List S67) (s12 : Int)
variable (h4 : k4.length ≤ 300) (h5 : k5.length ≤ 300) (h11 : k11.length ≤ 300) (ok4 : ∀ z ∈ k4,Ok_Run z) (ok5 : ∀ z ∈ k5,Ok_Entry z) (ok11 : ∀ z ∈ k11,Ok_Run z) (hf : In8 s1)
variable (hR : repB s0 s1 s2 s3 k4 k5 s6 s7 s8 s9 s10 k11 s12 = true)
variable (a0 a1 n : Int) (ha : a0 < 8) (hs : s0 < 8) (has : a0 ≠ s0) (hn : n ≠ 0) (hg : In8 a1)
variable (cur : Int) (kn : List S67) (hc0 : 0 ≤ cur) (hc : cur < 64) (hkr : rightK kn = true) (okn : ∀ z ∈ kn,Ok_Run z)
include ha hs has hn hc hkr
theorem pull_right : noteB 1 a0 s0 n cur a1 kn 0 [] 0 false [] = true:=by
 unfold noteB pullB;rw [hkr];simp [ha,hs,has,hn,hc]
include h4 h5 h11 ok4 ok5 ok11 hf hR okn
theorem due_f : source_Due.f 100000 s0 s1 s2 s3 k4 k5 s6 s7 s8 s9 s10 k11 s12 1 a0 s0 n cur a1 kn 0 [] 0 false [] = some (dueL k5 cur kn,none):=by
 have hkl:=((rightK_iff kn).1 hkr).2;unfold source_Due.f;rw [check_is s0 s1 s2 s3 k4 k5 s6 s7 s8 s9 s10 k11 s12 1 a0 s0 n cur a1 kn 0 [] 0 false [] h4 h5 h11 ok4 ok5 ok11 hf (by omega) (by simp) (by simp) okn (by simp) (by simp) hR (pull_right s0 a0 a1 n ha hs has hn cur kn hc hkr) rfl rfl];simp only [zW];rw [RightK_is kn (by omega) okn 100000 (by omega),hkr];simp only [zW,if_true];rw [if_pos (by omega)];rfl
def ansL (a1 : Int) (k5 : List S62) (cur : Int) (kn : List S67) : List S62:=((dueL k5 cur kn).take 4).map (ansV a1)
def ansN (k5 : List S62) (cur : Int) (kn : List S67) : Int:=nextI cur ((dueL k5 cur kn).take 4)
include hg hc0
theorem ans_f :
 (cur = 0 ∧ source_Answer.f 100000 s0 s1 s2 s3 k4 k5 s6 s7 s8 s9 s10 k11 s12 1 a0 s0 n cur a1 kn 0 [] 0 false [] = some (0,0,0,0,0,0,[],0,[],0,false,[],some 5)) ∨
 ∃ of,source_Answer.f 100000 s0 s1 s2 s3 k4 k5 s6 s7 s8 s9 s10 k11 s12 1 a0 s0 n cur a1 kn 0 [] 0 false [] = some (2,s0,a0,n,cur,0,[],s2,ansL a1 k5 cur kn,ansN k5 cur kn,decide ((dueL k5 cur kn).length ≤ 4),of,none) ∧
  noteB 2 s0 a0 n cur 0 [] s2 (ansL a1 k5 cur kn) (ansN k5 cur kn) (decide ((dueL k5 cur kn).length ≤ 4)) of = true ∧ of.length ≤ 300 ∧ (∀ z ∈ of,Ok_Run z):=by
 have hkl:=((rightK_iff kn).1 hkr).2;have hR':=hR;unfold repB at hR';simp only [zZ,yH] at hR';obtain ⟨r1,r2,r3,_⟩:=hR';have hpos : ∀ x ∈ k5,0 ≤ x.f0:=fun x hx=>(ok5 x hx).1.1
 have hall : k5.all (fun x=>(inO a1 x).isSome) = true:=List.all_eq_true.2 (fun x hx=>by unfold inO;rw [In_is x (ok5 x hx) a1 hg];rfl);have hAns : source_Answer.f 100000 s0 s1 s2 s3 k4 k5 s6 s7 s8 s9 s10 k11 s12 1 a0 s0 n cur a1 kn 0 [] 0 false [] = ((if 0 < cur then some (2,s0,a0,n,cur,0,[],s2,ansL a1 k5 cur kn,ansN k5 cur kn,decide ((dueL k5 cur kn).length ≤ 4),[],none)
  else (source_offer.l0 100000 a1 k5 k4).bind fun p=>match p.2 with
   | some c=>some (0,0,0,0,0,0,[],0,[],0,false,[],some c)
   | none=>some (2,s0,a0,n,cur,0,[],s2,ansL a1 k5 cur kn,ansN k5 cur kn,decide ((dueL k5 cur kn).length ≤ 4),p.1,none) : Option (Int × Int × Int × Int × Int × Int × (List (S67)) × Int × (List (S62)) × Int × Bool × (List (S67)) × Option Int))):=by
  unfold source_Answer.f;rw [check_is s0 s1 s2 s3 k4 k5 s6 s7 s8 s9 s10 k11 s12 1 a0 s0 n cur a1 kn 0 [] 0 false [] h4 h5 h11 ok4 ok5 ok11 hf (by omega) (by simp) (by simp) okn (by simp) (by simp) hR (pull_right s0 a0 a1 n ha hs has hn cur kn hc hkr) rfl rfl];simp only [zW];rw [RightK_is kn (by omega) okn 100000 (by omega),hkr];simp only [zW,if_true];rw [if_pos (by omega),if_pos hall];rfl
 have hDR : rightL (dueL k5 cur kn) = true:=rightL_filter (dueB cur kn) k5 r3;have hDm : ∀ x ∈ dueL k5 cur kn,x ∈ k5 ∧ cur ≤ x.f0:=fun x hx=>⟨(List.mem_filter.1 hx).1,((dueB_iff _ _ _).1 (List.mem_filter.1 hx).2).1⟩
 have hrest:=due_rest cur kn k5 r3 hpos;have hmain : ∀ of : List S67,rightK of = true → (0 < cur → of = []) →
  noteB 2 s0 a0 n cur 0 [] s2 (ansL a1 k5 cur kn) (ansN k5 cur kn) (decide ((dueL k5 cur kn).length ≤ 4)) of = true:=by
  intro of o1 o4;unfold noteB;rw [zE ha,zE hs,zF (fun h=>has h.symm),zF hn,zE hc,zF (show ¬ (2 : Int) = 1 by decide),zE (show (2 : Int) = 2 from rfl)];simp only [Bool.true_and,Bool.not_false,Bool.false_and,Bool.false_or];unfold batchB ansL ansN;have hLR:=rightL_map (ansV a1) (ansV_f0 a1) (ansV_right a1) _ (rightL_take _ 4 hDR);rw [zE (show (0 : Int) = 0 from rfl),zE (show ([] : List S67).length = 0 from rfl),hLR,o1,nextI_nextB (ansV a1) (ansV_f0 a1) cur ((dueL k5 cur kn).take 4),zE (show nextB cur (((dueL k5 cur kn).take 4).map (ansV a1)) = _ from rfl)];have hl4 : (((dueL k5 cur kn).take 4).map (ansV a1)).length ≤ 4:=by simp;omega
  rw [zE hl4];simp only [Bool.true_and];rw [← nextI_nextB (ansV a1) (ansV_f0 a1) cur ((dueL k5 cur kn).take 4)];have hfirst : (decide (0 < (((dueL k5 cur kn).take 4).map (ansV a1)).length) && decide (((((dueL k5 cur kn).take 4).map (ansV a1)).getD 0 z62).f0 < cur)) = false:=by
   by_cases h0 : 0 < (((dueL k5 cur kn).take 4).map (ansV a1)).length
   ·have hm:=getD_mem _ 0 z62 h0;obtain ⟨y,hy,e⟩:=List.mem_map.1 hm;rw [← e,ansV_f0];have:=(hDm y (List.mem_of_mem_take hy)).2;rw [zF (show ¬ y.f0 < cur by omega),Bool.and_false]
   ·rw [zF h0];rfl
  rw [hfirst];have hoff : (decide (0 < cur) && decide (0 < of.length)) = false:=by
   by_cases h0 : 0 < cur
   ·rw [o4 h0];simp
   ·rw [zF h0];rfl
  rw [hoff];simp only [Bool.not_false,Bool.true_and];by_cases h0 : (dueL k5 cur kn).length ≤ 4
  ·rw [zE h0];rfl
  ·obtain ⟨_,q2,_⟩:=hrest (by unfold dueL at h0;omega);rw [zF h0,zE (show nextI cur ((dueL k5 cur kn).take 4) < 64 from q2),zE (show (((dueL k5 cur kn).take 4).map (ansV a1)).length = 4 by simp;omega)];rfl
 by_cases h0 : 0 < cur
 ·rw [if_pos h0] at hAns;exact .inr ⟨[],hAns,hmain [] (by rfl) (fun _=>rfl),by simp,by simp⟩
 ·rw [if_neg h0] at hAns;rcases offer5 100000 a1 hg (by omega) k5 k4 ok5 (rightL_mem k5 r3) ok4 (by omega) r2 with he | ⟨l',he,o1,o2,o3⟩
  ·rw [he] at hAns;exact .inl ⟨by omega,hAns⟩
  ·rw [he] at hAns;exact .inr ⟨l',hAns,hmain l' o1 (fun h=>absurd h h0),by have:=((rightK_iff l').1 o1).2;omega,o3⟩
end
section
variable (s0 s1 s2 s3 : Int) (k4 : List S67) (k5 : List S62) (s6 : Bool) (s7 s8 s9 s10 : Int) (k11 : List S67) (s12 : Int)
variable (h5 : k5.length ≤ 300) (ok5 : ∀ z ∈ k5,Ok_Entry z)
variable (hR : repB s0 s1 s2 s3 k4 k5 s6 s7 s8 s9 s10 k11 s12 = true)
variable (a0 a1 a2 a3 n : Int) (hg : In8 a1)
def StepOK (s2 : Int) (k5 D : List S62) (m : Nat) (cur ep : Int) (of kn : List S67) (mof : List S67) : RRes → Prop
 | .zero c=>c = 5 ∨ c = 9
 | .off=>False
 | .done u hd=>(dueL k5 cur kn).length ≤ 4 ∧ u.length ≤ 900 ∧ hd.length ≤ 900 ∧ (∀ z ∈ hd,Ok_Entry z) ∧ rightL hd = true ∧ ∀ y ∈ D,Holds hd y
 | .more kn1 hd1=>4 < (dueL k5 cur kn).length ∧ Fet s2 k5 D (m + 4) (ansN k5 cur kn) (if cur = 0 then s2 else ep) (if cur = 0 then mof else of) kn1 hd1
include h5 ok5 hR hg
theorem step_f (D : List S62) (hD : D.length ≤ 300) (m : Nat) (cur ep : Int) (of kn : List S67) (hd : List S62) (F : Fet s2 k5 D m cur ep of kn hd) (mof : List S67) (mo1 : mof.length ≤ 300) (mo2 : ∀ z ∈ mof,Ok_Run z)
 (hN : noteB 2 s0 a0 n cur 0 [] s2 (ansL a1 k5 cur kn) (ansN k5 cur kn) (decide ((dueL k5 cur kn).length ≤ 4)) mof = true) :
 ∃ res,tgtAcc 100000 a0 a1 a2 a3 kn hd true n s0 cur ep of n 2 s0 a0 n cur 0 [] s2 (ansL a1 k5 cur kn) (ansN k5 cur kn) (decide ((dueL k5 cur kn).length ≤ 4)) mof = some res ∧ StepOK s2 k5 D m cur ep of kn mof res:=by
 have _:=h5;have hml:=F.ml;have hil:=F.inv.hl;have hkl:=F.inv.kl;have hR':=hR;unfold repB at hR';simp only [zZ,yH] at hR';obtain ⟨r1,r2,r3,_⟩:=hR';have hpos : ∀ x ∈ k5,0 ≤ x.f0:=fun x hx=>(ok5 x hx).1.1
 have hDm : ∀ x ∈ (dueL k5 cur kn).take 4,x ∈ k5:=fun x hx=>(List.mem_filter.1 (List.mem_of_mem_take hx)).1
 have hDR : rightL (dueL k5 cur kn) = true:=rightL_filter (dueB cur kn) k5 r3;have okL : ∀ z ∈ ansL a1 k5 cur kn,Ok_Entry z:=fun z hz=>by
  obtain ⟨y,hy,rfl⟩:=List.mem_map.1 hz;exact ansV_ok a1 y (ok5 y (hDm y hy))
 have rL : rightL (ansL a1 k5 cur kn) = true:=rightL_map (ansV a1) (ansV_f0 a1) (ansV_right a1) _ (rightL_take _ 4 hDR);have lL : (ansL a1 k5 cur kn).length ≤ 4:=by unfold ansL;simp;omega
 have lE : (ansL a1 k5 cur kn).length = min 4 (D.length - m):=by unfold ansL;rw [F.rest];simp
 unfold tgtAcc tgtGate;rw [rep_is 100000 a0 a1 a2 a3 kn hd true n s0 cur ep of n (by omega) (by omega) (by have:=F.ofl;omega) F.inv.ko F.inv.ho F.ofo hg (by omega) (by omega) (by have:=F.ofl;omega),
  note_is 100000 2 s0 a0 n cur 0 [] s2 _ _ _ mof (by simp) (by omega) (by omega) (by simp) okL mo2 (by simp) (by omega) (by omega),hN,waited_is]
 simp only [zW];have Z : StepOK s2 k5 D m cur ep of kn mof (.zero 9):=.inr rfl;cases repB a0 a1 a2 a3 kn hd true n s0 cur ep of n with
 | false=>exact ⟨.zero 9,rfl,Z⟩
 | true =>
  have hW : notWaited a0 true n s0 cur 2 s0 a0 n cur = false:=by unfold notWaited;simp
  rw [hW];simp only [Bool.true_eq_false,if_false,Bool.not_false];have hu : target_unmade.f a0 a1 a2 a3 kn hd true n s0 cur ep of n 2 s0 a0 n cur 0 [] s2 (ansL a1 k5 cur kn) (ansN k5 cur kn) (decide ((dueL k5 cur kn).length ≤ 4)) mof = some ((ansL a1 k5 cur kn).any (ownE a0 a3) || mof.any (ownR a0 a3)):=rfl;have ht : target_twins.f a0 a1 a2 a3 kn hd true n s0 cur ep of n 2 s0 a0 n cur 0 [] s2 (ansL a1 k5 cur kn) (ansN k5 cur kn) (decide ((dueL k5 cur kn).length ≤ 4)) mof = some (twinsB (ansL a1 k5 cur kn) hd (ansL a1 k5 cur kn).length 0):=rfl;rw [hu,ht];simp only [zW];cases (ansL a1 k5 cur kn).any (ownE a0 a3) || mof.any (ownR a0 a3) with
  | true=>exact ⟨.zero 9,rfl,Z⟩
  | false =>
   cases twinsB (ansL a1 k5 cur kn) hd (ansL a1 k5 cur kn).length 0 with
   | true=>exact ⟨.zero 9,rfl,Z⟩
   | false =>
    have hE : (decide (0 < cur) && (s2 != ep)) = false:=by
     by_cases h0 : 0 < cur
     ·rw [F.ep h0];simp
     ·rw [zF h0];rfl
    rw [hE];show ∃ res,(tfold 100000 a1 (ansL a1 k5 cur kn) (ansL a1 k5 cur kn).length kn hd 0).bind (ttail 100000 cur (decide ((dueL k5 cur kn).length ≤ 4)) of mof) = some res ∧ _;obtain ⟨r,f1,f3⟩:=folds2 100000 (by omega) a1 hg (ansL a1 k5 cur kn) rL okL (ansL a1 k5 cur kn).length 0 (300 + m) kn hd (by omega) (by omega) F.inv;rw [f1];cases r with
    | inl c=>exact ⟨.zero c,rfl,f3⟩
    | inr s =>
     obtain ⟨kn1,hd1⟩:=s;obtain ⟨I1,G⟩:=f3;rw [List.drop_zero] at G;have hl1 : hd1.length ≤ 300 + m + (ansL a1 k5 cur kn).length:=I1.hl;have hk1 : kn1.length ≤ 64:=I1.kl;show ∃ res,tend 100000 cur (decide ((dueL k5 cur kn).length ≤ 4)) of mof kn1 hd1 = some res ∧ _;have hH : ∀ y ∈ D.take (m + 4),Holds hd1 y:=fun y hy=>by
      rw [List.take_add] at hy;rcases List.mem_append.1 hy with hy | hy
      ·exact G.old y (F.held y hy)
      ·rw [← F.rest] at hy;exact (G.new (ansV a1 y) (List.mem_map.2 ⟨y,hy,rfl⟩)).like (ansV_f0 a1 y) (ansV_f1 a1 y)
     by_cases h4 : (dueL k5 cur kn).length ≤ 4
     ·have hall : ∀ y ∈ D,Holds hd1 y:=fun y hy=>hH y (by
       rw [List.take_of_length_le (by rw [F.rest,List.length_drop] at h4;omega)];exact hy)
      unfold tend;rw [zE h4,if_pos rfl];have hO : ∀ o : List S67,o.length ≤ 300 → (∀ z ∈ o,Ok_Run z) → ∃ res,((know_Union.f 100000 kn1 o).bind fun p=>match p.2 with | none=>some (.done p.1 hd1) | some c=>some (.zero c)) = some res ∧ StepOK s2 k5 D m cur ep of kn mof res:=by
       intro o hl ok;rw [UnionK_is kn1 o (by omega) (by omega) I1.ko ok 100000 (by omega)];have hp:=unionF_err kn1 o;have hq:=unionF_len kn1 o;show ∃ res,((some (unionF kn1 o)).bind _) = some res ∧ _;generalize unionF kn1 o = p at hp hq;obtain ⟨p1,p2⟩:=p;cases p2 with
       | none=>exact ⟨.done p1 hd1,rfl,h4,by simp only at hq;omega,by omega,I1.ho,I1.hr,hall⟩
       | some c=>exact ⟨.zero c,rfl,hp c rfl⟩
      by_cases h0 : cur = 0
      ·rw [if_pos h0];exact hO mof mo1 mo2
      ·rw [if_neg h0];exact hO of F.ofl F.ofo
     ·unfold tend;rw [zF h4,if_neg (by decide),if_pos (by omega)];obtain ⟨q1,q2,q3⟩:=due_rest cur kn k5 r3 hpos (by unfold dueL at h4;omega);have hlen : (dueL k5 cur kn).length = D.length - m:=by rw [F.rest,List.length_drop]
      refine ⟨.more kn1 hd1,rfl,by omega,⟨q3,q2⟩,fun _=>?_,?_,by omega,?_,hH,?_,?_⟩
      ·by_cases h0 : cur = 0
       ·rw [if_pos h0]
       ·rw [if_neg h0];exact F.ep (by have:=F.cu.1;omega)
      ·have e1 : dueL k5 (ansN k5 cur kn) kn1 = dueL k5 (ansN k5 cur kn) kn:=by
        unfold dueL;refine List.filter_congr fun x hx=>?_
        unfold dueB;by_cases hc : ansN k5 cur kn ≤ x.f0
        ·rw [zE hc,Bool.true_and,Bool.true_and];congr 1;rw [Bool.eq_iff_iff,any_iff,any_iff];refine ⟨fun h=>?_,G.sub _ _⟩;rcases G.mem _ _ h with h | ⟨y,hy,g1,g2⟩
         ·exact h
         ·obtain ⟨z,hz,rfl⟩:=List.mem_map.1 hy;rw [ansV_f1] at g1 g2;have hzk:=hDm z hz;have h1:=rep_apart s0 s1 s2 s3 k4 k5 s6 s7 s8 s9 s10 k11 s12 hR z hzk x hx g1 g2;have h2:=nextI_gt cur _ (rightL_take _ 4 hDR) (fun y hy=>hpos y (hDm y hy)) z hz;unfold ansN at hc;omega
        ·rw [zF hc,Bool.false_and,Bool.false_and]
       rw [e1];have e2 : dueL k5 (ansN k5 cur kn) kn = (dueL k5 cur kn).drop 4:=q1;rw [e2,F.rest,List.drop_drop]
      ·rw [lE,show min 4 (D.length - m) = 4 by omega,Nat.add_assoc] at I1;exact I1
      ·split
       ·exact mo1
       ·exact F.ofl
      ·split
       ·exact mo2
       ·exact F.ofo
end
end Go.Proofs.YtiminjibcafkaaaGreatDoor.X
end
section
namespace Go.Proofs.YtiminjibcafkaaaGreatDoor.X
open Go.RowKit Go.Shelf Go.Proofs.YtiminjibcafkaaaGreatDoorW.PrintWords Go.Proofs.YtiminjibcafkaaaGreatDoorW.PrintLast Go.Proofs.YtiminjibcafkaaaGreatDoorW.PrintMore
def Told (D TT : List S62) (m : Nat) : Prop:=TT.length = m ∧ TT.map (fun x=>x.f1) = (D.take m).map (fun x=>x.f1)
theorem Told.at_ {D TT : List S62} (h : Told D TT D.length) (i : Nat) (hi : i < D.length) : (TT.getD i z62).f1 = (D.getD i z62).f1:=by
 obtain ⟨h1,h2⟩:=h;rw [List.take_length] at h2;have h3 : (TT.map (fun x=>x.f1))[i]? = (D.map (fun x=>x.f1))[i]?:=by rw [h2]
 rw [List.getElem?_map,List.getElem?_map,zO (by omega),zO hi] at h3;rw [yG,yG,zO (by omega),zO hi];exact zH h3
def AftOK (s2 : Int) (k5 D : List S62) (m j : Nat) (nx cur ep : Int) (of kn mof : List S67) : RRes → Prop
 | .zero c=>c = 5 ∨ c = 9
 | .off=>False
 | .done u hd=>m + j = D.length ∧ hd.length ≤ 900 ∧ rightL hd = true ∧ ∀ y ∈ D,Holds hd y
 | .more kn1 hd1=>0 < j ∧ Fet s2 k5 D (m + j) nx (if cur = 0 then s2 else ep) (if cur = 0 then mof else of) kn1 hd1
def RoundOK (s0 s1 s2 s3 : Int) (k4 : List S67) (k5 : List S62) (s6 : Bool) (s7 s8 s9 s10 : Int) (k11 : List S67) (s12 : Int) (a0 a1 a2 a3 n : Int) (D : List S62) (m : Nat) (cur ep : Int) (of kn : List S67) (hd : List S62) : Prop :=
 source_Answer.f 100000 s0 s1 s2 s3 k4 k5 s6 s7 s8 s9 s10 k11 s12 1 a0 s0 n cur a1 kn 0 [] 0 false [] = some (0,0,0,0,0,0,[],0,[],0,false,[],some 5) ∨
 ∃ (L : List S62) (nx : Int) (dn : Bool) (mof : List S67) (res : RRes),source_Answer.f 100000 s0 s1 s2 s3 k4 k5 s6 s7 s8 s9 s10 k11 s12 1 a0 s0 n cur a1 kn 0 [] 0 false [] = some (2,s0,a0,n,cur,0,[],s2,L,nx,dn,mof,none) ∧
  tidingsref04_Right.f 100000 2 s0 a0 n cur 0 [] s2 L nx dn mof = some true ∧ L.length ≤ 4 ∧ mof.length ≤ 300 ∧ m + L.length ≤ D.length ∧ (∀ TT,Told D TT m → Told D (TT ++ L) (m + L.length)) ∧
  tgtAcc 100000 a0 a1 a2 a3 kn hd true n s0 cur ep of n 2 s0 a0 n cur 0 [] s2 L nx dn mof = some res ∧ AftOK s2 k5 D m L.length nx cur ep of kn mof res
section
variable (s0 s1 s2 s3 : Int) (k4 : List S67) (k5 : List S62) (s6 : Bool) (s7 s8 s9 s10 : Int) (k11 : List S67) (s12 : Int)
variable (h4 : k4.length ≤ 300) (h5 : k5.length ≤ 300) (h11 : k11.length ≤ 300) (ok4 : ∀ z ∈ k4,Ok_Run z) (ok5 : ∀ z ∈ k5,Ok_Entry z) (ok11 : ∀ z ∈ k11,Ok_Run z) (hf : In8 s1)
variable (hR : repB s0 s1 s2 s3 k4 k5 s6 s7 s8 s9 s10 k11 s12 = true)
variable (a0 a1 a2 a3 n : Int) (ha : a0 < 8) (hs : s0 < 8) (has : a0 ≠ s0) (hn : n ≠ 0) (hn0 : 0 ≤ n) (hg : In8 a1)
include h4 h5 h11 ok4 ok5 ok11 hf hR ha hs has hn hn0 hg
theorem round_f (D : List S62) (hD : D.length ≤ 300) (m : Nat) (cur ep : Int) (of kn : List S67) (hd : List S62) (F : Fet s2 k5 D m cur ep of kn hd) : RoundOK s0 s1 s2 s3 k4 k5 s6 s7 s8 s9 s10 k11 s12 a0 a1 a2 a3 n D m cur ep of kn hd:=by
 rcases ans_f s0 s1 s2 s3 k4 k5 s6 s7 s8 s9 s10 k11 s12 h4 h5 h11 ok4 ok5 ok11 hf hR a0 a1 n ha hs has hn hg cur kn F.cu.1 F.cu.2 F.inv.kr F.inv.ko with ⟨_,h⟩ | ⟨mof,h,hN,m1,m2⟩
 ·exact .inl h
 ·refine .inr ?_;obtain ⟨res,hT,hS⟩:=step_f s0 s1 s2 s3 k4 k5 s6 s7 s8 s9 s10 k11 s12 h5 ok5 hR a0 a1 a2 a3 n hg D hD m cur ep of kn hd F mof m1 m2 hN;have hml:=F.ml;have hlen : (dueL k5 cur kn).length = D.length - m:=by rw [F.rest,List.length_drop]
  have lE : (ansL a1 k5 cur kn).length = min 4 (D.length - m):=by unfold ansL;rw [F.rest];simp
  have hR':=hR;unfold repB at hR';simp only [zZ,yH] at hR';obtain ⟨r1,r2,r3,_⟩:=hR';have hpos : ∀ x ∈ k5,0 ≤ x.f0:=fun x hx=>(ok5 x hx).1.1
  have hDm : ∀ x ∈ (dueL k5 cur kn).take 4,x ∈ k5:=fun x hx=>(List.mem_filter.1 (List.mem_of_mem_take hx)).1
  have okL : ∀ z ∈ ansL a1 k5 cur kn,Ok_Entry z:=fun z hz=>by
   obtain ⟨y,hy,rfl⟩:=List.mem_map.1 hz;exact ansV_ok a1 y (ok5 y (hDm y hy))
  have hN9 : In8 (ansN k5 cur kn):=by
   unfold ansN;have hc:=F.cu;rcases List.eq_nil_or_concat ((dueL k5 cur kn).take 4) with e | ⟨l',x,e⟩
   ·rw [e];show In8 cur;unfold In8;omega
   ·rw [e,List.concat_eq_append,nextI_snoc];unfold In8;omega
  refine ⟨_,_,_,mof,res,h,?_,by omega,m1,by omega,fun TT hTT=>?_,hT,?_⟩
  ·rw [note4_is 100000 2 s0 a0 n cur 0 [] s2 _ _ _ mof F.cu.1 (by simp) (by omega) (by omega) (by simp) hN9 okL m2 hn0 (by omega),hN]
  ·obtain ⟨t1,t2⟩:=hTT;refine ⟨by rw [List.length_append,t1],?_⟩;rw [List.map_append,t2,List.take_add,List.map_append];congr 1;unfold ansL;rw [F.rest,List.map_map,List.length_map];have hv : ((fun x : S62=>x.f1) ∘ ansV a1) = fun x=>x.f1:=funext fun x=>ansV_f1 a1 x
   rw [hv,List.length_take,List.length_drop];by_cases h0 : 4 ≤ D.length - m
   ·rw [show min 4 (D.length - m) = 4 by omega]
   ·rw [show min 4 (D.length - m) = D.length - m by omega,List.take_of_length_le (by rw [List.length_drop];omega),List.take_of_length_le (by rw [List.length_drop];omega)]
  ·cases res with
   | zero c=>exact hS
   | off=>exact hS
   | done u hd1 =>
    obtain ⟨q1,q2,q3,q4,q5,q6⟩:=hS;exact ⟨by omega,q3,q5,q6⟩
   | more kn1 hd1 =>
    obtain ⟨q1,q2⟩:=hS;have : (ansL a1 k5 cur kn).length = 4:=by omega
    rw [this];exact ⟨by omega,q2⟩
end
theorem find_right : ∀ (l : List S62),rightL l = true → ∀ x ∈ l,l.find? (isID x.f0) = some x
 | [],_,x,h=>by cases h
 | y :: l,hr,x,h=>by
  obtain ⟨h1,h2,h3⟩:=rightL_cons y l hr;rcases List.mem_cons.1 h with rfl | h
  ·rw [List.find?_cons_of_pos (by unfold isID;simp)]
  ·rw [List.find?_cons_of_neg (by unfold isID;have:=h3 x h;simp;omega)];exact find_right l h2 x h
theorem end_f (hd : List S62) (hl : hd.length ≤ 900) (hr : rightL hd = true) (y : S62) (h : Holds hd y) : ∃ x : S62,tidingsref02_Find.f 100000 hd y.f0 = some (x.f0,x.f1.f0,x.f1.f1,x.f1.f2,x.f2,x.f3,x.f4,true) ∧ tidingsref02_Less.f x.f1.f0 x.f1.f1 x.f1.f2 y.f1.f0 y.f1.f1 y.f1.f2 = some false:=by
 obtain ⟨x,hx,h1,h2⟩:=h;have hf:=find_right hd hr x hx;rw [h1] at hf;refine ⟨x,?_,?_⟩
 ·rw [Find_is' hd y.f0 (by omega) 100000 (by omega)];unfold findE;rw [hf];rfl
 ·rw [Less_is];unfold lessV;rw [zF h2]
end Go.Proofs.YtiminjibcafkaaaGreatDoor.X
end
