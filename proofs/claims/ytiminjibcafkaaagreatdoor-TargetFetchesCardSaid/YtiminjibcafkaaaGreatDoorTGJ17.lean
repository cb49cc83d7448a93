/- Texts that this claim's law comes to, joined by wip/slim.py: TFdue, TAX11. -/
import Derived.Test.YtiminjibcafkaaaGreatDoorTGTFfence
import Derived.Test.YtiminjibcafkaaaGreatDoorTGJ16
import Derived.Test.YtiminjibcafkaaaGreatDoorTGTAJ5
import Derived.Test.YtiminjibcafkaaaGreatDoorTGTAJ4
import Derived.Test.YtiminjibcafkaaaGreatDoorTGTAX5
set_option linter.unusedSimpArgs false
set_option linter.unusedVariables false
section
namespace Go.Proofs.YtiminjibcafkaaaGreatDoor.X
open Go.RowKit Go.Shelf Go.Proofs.YtiminjibcafkaaaGreatDoorW.PrintWords Go.Proofs.YtiminjibcafkaaaGreatDoorW.PrintLast Go.Proofs.YtiminjibcafkaaaGreatDoorW.PrintMore
attribute [local go_sem] Oper.semAt_some
def dueB (cur : Int) (kn : List S67) (x : S62) : Bool:=decide (cur ≤ x.f0) && !(kn.any (inRun x.f1.f0 x.f1.f1))
def encE (x : S62) : Array Value:=#[.agg #[.int .u8 x.f0,.int .u8 x.f1.f0,.int .u32 x.f1.f1,.int .u32 x.f1.f2,.int .i64 x.f2,.int .u8 x.f3,.int .u32 x.f4]]
theorem filter_take_prefix {α : Type} (p : α → Bool) (l : List α) (k : Nat) : (l.take k).filter p <+: l.filter p:=List.IsPrefix.filter p (List.take_prefix k l)
theorem filter_take_succI {α : Type} (p : α → Bool) (l : List α) (k : Nat) (h : k < l.length) : (l.take (k + 1)).filter p = (l.take k).filter p ++ (if p l[k] = true then [l[k]] else []):=by
 rw [List.take_succ_eq_append_getElem h,List.filter_append];congr 1;by_cases hp : p l[k] = true<;>simp [hp]
set_option maxRecDepth 100000 in
set_option maxHeartbeats 4000000 in
theorem due_iterG {α : Type} (val : α → S62) (k n : Nat) (hn : 1 ≤ n) (w0 : World) (B1 B2 : Nat) (tR tN : Nat) (cR cN : Array Value) (A : Option Addr) (c : Nat) (hs : List α) (held : List S62) (hmap : hs.map val = held) (cur : Int) (AK : Option Addr) (ck : Nat) (kn : List S67)
 (h5 : cR[5]? = some (.slice A held.length c)) (h4 : cN[4]? = some (.int .u8 cur)) (h6 : cN[6]? = some (.slice AK kn.length ck))
 (HR : Kd.C k62 w0 A held.length held) (HK : Kd.C k67 w0 AK kn.length kn) (hck : kn.length ≤ ck) (hkr : know_Right.f k kn = some true)
 (w : World) (hW : Below w0.heap.size w0 w) (hb1 : w.heap[B1]? = some (.cells cR tR (0,0))) (hb2 : w.heap[B2]? = some (.cells cN tN (0,0))) :
 SeqStopsK Fence.wide n Tryz.prog 94 #[.pointer (some ⟨B1,0,none⟩),.pointer (some ⟨B2,0,none⟩)] (fun x=>encE (val x)) (KeptIt w0.heap.size B1 B2) (fun ys=>ys = hs.filter (fun x=>dueB cur kn (val x))) (fun pre=>pre <+: hs.filter (fun x=>dueB cur kn (val x))) (hs.filter (fun x=>dueB cur kn (val x))).length w:=fun lp J Jx W hWw hJ hJx hY h0=>by
 have hlen : held.length = hs.length:=by rw [← hmap,List.length_map]
 have hmax : held.length ≤ 9223372036854775807:=HR.2.1;have hu:=Tryz.underlying62;have HY:=zA hY;have HJ:=zA hJ;have HR0:=zA HR;have HK0:=zA HK;have HCK:=zA hck;have HKR:=zA hkr;have HB0:=zA (hW.trans (hWw.mono hW.size));have hg1:=zC hb1 hWw;have hg2:=zC hb2 hWw;have HG1:=zA hg1;have HG2:=zA hg2;have HW0:=zA (zM W.heap.size);have H5:=zA h5;have H4:=zA h4;have H6:=zA h6;have hJx':=zA hJx;have H0:=zA h0;have q5 : W.cell? ⟨B1,5,none⟩ = some (.slice A held.length c):=(zI hg1 5).trans h5;clear hY hJ HR HK hck hkr hW hWw hg1 hg2 h5 h4 h6 hb1 hb2 hJx h0;show CallsIn Fence.wide n Tryz.prog 94 #[.func (.yield lp) #[] #[],.pointer (some ⟨B1,0,none⟩),.pointer (some ⟨B2,0,none⟩)] W _;refine callsIn_of_wp Tryz.func94 rfl trivial ?_ rfl;simp only [Tryz.ntmps94,List.size_toArray,List.length_cons,List.length_nil,Nat.reduceAdd,Nat.reduceSub,Array.replicate_succ,Array.replicate_zero,List.push_toArray,List.append_toArray,List.nil_append,List.cons_append];gi_wp2_with fail;gi_loopw [9] (fun s9 wr=>∃ kk : Nat,kk ≤ held.length ∧ s9 = .int .i64 kk ∧ Aside0 (J ((hs.take kk).filter (fun x=>dueB cur kn (val x))) wr) ∧ Aside0 (Below w0.heap.size w0 wr) ∧ Aside0 (W.heap.size ≤ wr.heap.size) ∧ Aside0 (wr.heap[B1]? = some (.cells cR tR (0,0))) ∧ Aside0 (wr.heap[B2]? = some (.cells cN tN (0,0)))) (fun s9 _=>held.length - (intOf s9).toNat)
 case atStart=>exact ⟨0,Nat.zero_le _,rfl,H0,HB0,HW0,HG1,HG2⟩
 case round =>
  obtain ⟨kk,hkk,rfl,HJk,HBk,HWk,HG1k,HG2k⟩:=hrel;clear H0 HB0 HG1 HG2 q5;by_cases hlt : kk < held.length
  ·have hlh : kk < hs.length:=by rw [← hlen];exact hlt
   have hltz : (kk : Int) < (held.length : Int):=by omega
   have h0k : (0 : Int) ≤ (kk : Int):=by omega
   have hfs : (hs.take (kk + 1)).filter (fun x=>dueB cur kn (val x)) = (hs.take kk).filter (fun x=>dueB cur kn (val x)) ++ (if dueB cur kn (val hs[kk]) = true then [hs[kk]] else []):=filter_take_succI (fun x=>dueB cur kn (val x)) hs kk hlh;have hpre:=filter_take_prefix (fun x=>dueB cur kn (val x)) hs (kk + 1);obtain ⟨ax,rfl,p0,p1,p2,p3,p4,p5,p6⟩:=at_T62 (zL HR0.out HBk.out) (kk : Int) h0k hltz;rw [show rd_T62 held (kk : Int) = held.getD kk z62 from rfl] at p0 p1 p2 p3 p4 p5 p6;simp only [Int.toNat_natCast] at p0 p1 p2 p3 p4 p5 p6;have hgx : held.getD kk z62 = val hs[kk]:=by subst hmap;simp [hlh]
   rw [hgx] at p0 p1 p2 p3 p4 p5 p6;clear hgx;generalize hs[kk] = XA at hfs p0 p1 p2 p3 p4 p5 p6;generalize hval : val XA = X at hfs p0 p1 p2 p3 p4 p5 p6;have HVAL:=zA hval;clear hval hlh;have HFS:=zA hfs;have HPRE:=zA hpre;clear hfs hpre;have HE:=zA (heap_alloc_new wr (.cells #[.int .u8 X.f0,.int .u8 X.f1.f0,.int .u32 X.f1.f1,.int .u32 X.f1.f2,.int .i64 X.f2,.int .u8 X.f3,.int .u32 X.f4] 62));have HJe:=zA (HJ.out _ wr (wr.alloc (.cells #[.int .u8 X.f0,.int .u8 X.f1.f0,.int .u32 X.f1.f1,.int .u32 X.f1.f2,.int .i64 X.f2,.int .u8 X.f3,.int .u32 X.f4] 62)) none HJk.out (World.grownBy_alloc wr _ none) (fun r e=>by cases e));have HBe:=zA (HBk.out.alloc HBk.out.size (.cells #[.int .u8 X.f0,.int .u8 X.f1.f0,.int .u32 X.f1.f1,.int .u32 X.f1.f2,.int .i64 X.f2,.int .u8 X.f3,.int .u32 X.f4] 62));have HWe:=zA (show W.heap.size ≤ (wr.alloc (.cells #[.int .u8 X.f0,.int .u8 X.f1.f0,.int .u32 X.f1.f1,.int .u32 X.f1.f2,.int .i64 X.f2,.int .u8 X.f3,.int .u32 X.f4] 62)).heap.size by have:=HWk.out;simp;omega);have HG1e:=zA (yE HG1k.out (.cells #[.int .u8 X.f0,.int .u8 X.f1.f0,.int .u32 X.f1.f1,.int .u32 X.f1.f2,.int .i64 X.f2,.int .u8 X.f3,.int .u32 X.f4] 62));have HG2e:=zA (yE HG2k.out (.cells #[.int .u8 X.f0,.int .u8 X.f1.f0,.int .u32 X.f1.f1,.int .u32 X.f1.f2,.int .i64 X.f2,.int .u8 X.f3,.int .u32 X.f4] 62));have g4 : (wr.alloc (.cells #[.int .u8 X.f0,.int .u8 X.f1.f0,.int .u32 X.f1.f1,.int .u32 X.f1.f2,.int .i64 X.f2,.int .u8 X.f3,.int .u32 X.f4] 62)).cell? ⟨B2,4,none⟩ = some (.int .u8 cur):=(zI HG2e.out 4).trans H4.out;have g6 : (wr.alloc (.cells #[.int .u8 X.f0,.int .u8 X.f1.f0,.int .u32 X.f1.f1,.int .u32 X.f1.f2,.int .i64 X.f2,.int .u8 X.f3,.int .u32 X.f4] 62)).cell? ⟨B2,6,none⟩ = some (.slice AK kn.length ck):=(zI HG2e.out 6).trans H6.out;by_cases hcx : cur ≤ X.f0
   ·have hcb : decide (X.f0 ≥ cur) = true:=zE hcx;have hcb2 : decide (cur ≤ X.f0) = true:=zE hcx;have hhas : know_Has.f k kn X.f1.f0 X.f1.f1 = some (kn.any (inRun X.f1.f0 X.f1.f1)):=by unfold know_Has.f;rw [HKR.out];rfl
    have HHAS:=zA hhas;have hde : dueB cur kn X = !(kn.any (inRun X.f1.f0 X.f1.f1)):=by unfold dueB;rw [hcb2];rfl
    have HDE:=zA hde;clear hhas hde;generalize kn.any (inRun X.f1.f0 X.f1.f1) = ba at HHAS HDE;gi_wp2_with fail;refine ⟨trivial,?_⟩;refine (callsIn_wide.2 (know_Has.calls k _ _ kn _ _ ba _ (zL HK0.out HBe.out) HCK.out HHAS.out)).mono ?_;rintro ev w5 ⟨rfl,hx⟩;have HEx:=zA (zC HE.out hx);have HJx:=zA (HJ.out _ _ w5 none HJe.out (grown_of_below hx none) (fun r e=>by cases e));have HBx:=zA (zG HBe.out hx);have HWx:=zA (zV HWe.out hx.size);have HG1x:=zA (zC HG1e.out hx);have HG2x:=zA (zC HG2e.out hx);clear hx HE HJe HBe HWe HG1e HG2e HJk HBk HWk HG1k HG2k g4 g6 p0 p1 p2 p3 p4 p5 p6;have s_:=cells7 HEx.out;cases ba with
    | true =>
     gi_wp2_with fail;refine ⟨fun _ h=>(by cases h),?_⟩;gi_wp2_with fail;go_roundw
     case rel =>
      refine ⟨kk + 1,by omega,by go_num,?_,HBx,HWx,HG1x,HG2x⟩;have h1:=HFS.out;rw [HDE.out] at h1;simp only [Bool.not_true,yC,if_false,List.append_nil] at h1;rw [h1];exact HJx
     case measure=>simp [intOf];omega
    | false =>
     obtain ⟨fn,tmps,assign,body,hy,hR⟩:=HY.out _ XA w5 HJx.out (by
      have h1:=HFS.out;have h2:=HPRE.out.length_le;rw [HDE.out] at h1;rw [h1] at h2;simp at h2;omega)
     rw [HVAL.out] at hy;dsimp only [encE] at hy;gi_wp2_with fail;refine hR.mono ?_;rintro ev W3 (⟨rfl,hJ3,hk3⟩ | ⟨rfl,hJx3⟩)
     ·have hfs : (hs.take (kk + 1)).filter (fun x=>dueB cur kn (val x)) = (hs.take kk).filter (fun x=>dueB cur kn (val x)) ++ [XA]:=by
       have h1:=HFS.out;rw [HDE.out] at h1;simpa using h1
      have HFS2:=zA hfs;clear hfs;have HBy:=zA (HBx.out.trans hk3.1);have HWy:=zA (zV HWx.out hk3.1.size);have HG1y:=zA (hk3.2.1 _ HG1x.out);have HG2y:=zA (hk3.2.2 _ HG2x.out);have HJy:=zA hJ3;clear hk3 hJ3;gi_wp2_with fail;go_roundw
      case rel =>
       refine ⟨kk + 1,by omega,by go_num,?_,HBy,HWy,HG1y,HG2y⟩;rw [HFS2.out];exact HJy
      case measure=>simp [intOf];omega
     ·have hfs : (hs.take (kk + 1)).filter (fun x=>dueB cur kn (val x)) = (hs.take kk).filter (fun x=>dueB cur kn (val x)) ++ [XA]:=by
       have h1:=HFS.out;rw [HDE.out] at h1;simpa using h1
      have HP:=zA (show (hs.take kk).filter (fun x=>dueB cur kn (val x)) ++ [XA] <+: hs.filter (fun x=>dueB cur kn (val x)) by rw [← hfs];exact HPRE.out);clear hfs;gi_wp2_with fail;refine bodyPost_ret (results_none rfl _ _ _) rfl ?_;exact ⟨⟨_,rfl⟩,.inr ⟨_,HP.out,hJx3⟩⟩
   ·have hcb : decide (X.f0 ≥ cur) = false:=zF hcx;have hcb2 : decide (cur ≤ X.f0) = false:=zF hcx;have hde : dueB cur kn X = false:=by unfold dueB;rw [hcb2];rfl
    have HDE:=zA hde;clear hde;gi_wp2_with fail;refine ⟨trivial,?_⟩;gi_wp2_with fail;refine ⟨fun _ h=>(by cases h),?_⟩;gi_wp2_with fail;go_roundw
    case rel =>
     refine ⟨kk + 1,by omega,by go_num,?_,HBe,HWe,HG1e,HG2e⟩;have h1:=HFS.out;rw [HDE.out] at h1;simp only [yC,if_false,List.append_nil] at h1;rw [h1];exact HJe
    case measure=>simp [intOf];omega
  ·gi_wp2_with fail;go_end0;refine ⟨⟨_,rfl⟩,.inl ⟨_,rfl,?_⟩⟩;have h1:=HJk.out;rw [List.take_of_length_le (by omega)] at h1;exact h1
theorem due_iter (k n : Nat) (hn : 1 ≤ n) (w0 : World) (B1 B2 : Nat) (tR tN : Nat) (cR cN : Array Value) (A : Option Addr) (c : Nat) (held : List S62) (cur : Int) (AK : Option Addr) (ck : Nat) (kn : List S67)
 (h5 : cR[5]? = some (.slice A held.length c)) (h4 : cN[4]? = some (.int .u8 cur)) (h6 : cN[6]? = some (.slice AK kn.length ck))
 (HR : Kd.C k62 w0 A held.length held) (HK : Kd.C k67 w0 AK kn.length kn) (hck : kn.length ≤ ck) (hkr : know_Right.f k kn = some true)
 (w : World) (hW : Below w0.heap.size w0 w) (hb1 : w.heap[B1]? = some (.cells cR tR (0,0))) (hb2 : w.heap[B2]? = some (.cells cN tN (0,0))) :
 SeqStopsK Fence.wide n Tryz.prog 94 #[.pointer (some ⟨B1,0,none⟩),.pointer (some ⟨B2,0,none⟩)] encE (KeptIt w0.heap.size B1 B2) (fun ys=>ys = held.filter (dueB cur kn)) (fun pre=>pre <+: held.filter (dueB cur kn)) (held.filter (dueB cur kn)).length w :=
 due_iterG (fun x=>x) k n hn w0 B1 B2 tR tN cR cN A c held held (List.map_id' _) cur AK ck kn h5 h4 h6 HR HK hck hkr w hW hb1 hb2
theorem own_cell_ne {W : World} {g : Nat} {t e base size n : Nat} {c : Array Value} {v : Value} {xs : List Value} (h : W.heap[g]? = some (.cells c t (0,0))) (hr : W.ownsRow base e size v n xs) (hte : t ≠ e) : some g ≠ v.ownBlock:=by
 intro e';obtain ⟨cells,hc⟩:=own_typed hr g e'.symm;rw [h] at hc;cases hc;exact hte rfl
set_option maxRecDepth 100000 in
set_option maxHeartbeats 4000000 in
theorem AppendSeq_due (k : Nat) (w0 : World) (B1 B2 : Nat) (tR tN : Nat) (cR cN : Array Value) (A : Option Addr) (c : Nat) (held : List S62) (cur : Int) (AK : Option Addr) (ck : Nat) (kn : List S67)
 (h5 : cR[5]? = some (.slice A held.length c)) (h4 : cN[4]? = some (.int .u8 cur)) (h6 : cN[6]? = some (.slice AK kn.length ck))
 (HR : Kd.C k62 w0 A held.length held) (HK : Kd.C k67 w0 AK kn.length kn) (hck : kn.length ≤ ck) (hkr : know_Right.f k kn = some true) (hlen : held.length ≤ 400000)
 (w : World) (hW : Below w0.heap.size w0 w) (hb1 : w.heap[B1]? = some (.cells cR tR (0,0))) (hb2 : w.heap[B2]? = some (.cells cN tN (0,0))) :
 Calls Tryz.prog 93 #[.slice none 0 0,.func (.func 94) #[] #[.pointer (some ⟨B1,0,none⟩),.pointer (some ⟨B2,0,none⟩)]] w
  fun e w'=>∃ v,e = .returned v ∧ Kd.R k62 62 w' w.heap.size (fun _=>True) v (held.filter (dueB cur kn)) ∧ Below w.heap.size w w':=by
 have hu:=Tryz.underlying62;have hN : (held.filter (dueB cur kn)).length ≤ 400000:=zV (List.length_filter_le _ _) hlen;have hs:=zA (due_iter k 2 (by omega) w0 B1 B2 tR tN cR cN A c held cur AK ck kn h5 h4 h6 HR HK hck hkr (w.alloc (.cells #[.slice none 0 0] 24)) (hW.alloc hW.size _) (yE hb1 _) (yE hb2 _));have l1 : B1 < w.heap.size:=blk_lt hb1;have l2 : B2 < w.heap.size:=blk_lt hb2;have l0 : w0.heap.size ≤ w.heap.size:=hW.size;clear h5 h4 h6 HR HK hck hkr hlen hW hb1 hb2;refine (callsIn_wide (n:=3)).1 ?_;refine callsIn_of_wp_marks Tryz.func93 rfl trivial ?_ rfl;simp only [Tryz.ntmps93,List.size_toArray,List.length_cons,List.length_nil,Nat.reduceAdd,Nat.reduceSub,Array.replicate_succ,Array.replicate_zero,List.push_toArray,List.append_toArray,List.nil_append,List.cons_append];gi_wp2;have b0:=yL w (.cells #[.slice none 0 0] 24);have HBX:=(zS w.heap.size w).alloc (zM _) (.cells #[.slice none 0 0] 24);generalize hw1 : w.alloc (.cells #[.slice none 0 0] 24) = w1 at hs b0 HBX ⊢;have hsz : w1.heap.size = w.heap.size + 1:=by rw [← hw1];simp
 clear hw1;refine wpIn_rangeFunc_ownH rfl (by omega) (gf:=94) (lb:=#[.pointer (some ⟨B1,0,none⟩),.pointer (some ⟨B2,0,none⟩)]) rfl trivial (enters_of Tryz.func94 (by kernel_rfl) rfl)
  hs.out (fun h k=>h.trans k) (keptIt_b (by omega) (by omega) (by omega)) (zS _ _) (fun _=>rfl)
  (fun pre W=>(∃ v,W.heap[w.heap.size]? = some (.cells #[v] 24 (0,0)) ∧ Kd.R k62 62 W w.heap.size (fun _=>True) v pre) ∧ Below w.heap.size w W)
  (fun _ _ _=>False)
  (OwnFrom.and (fun s X Y row hh hg hr=>by
   obtain ⟨v,h1,h2⟩:=hh;exact ⟨v,blk_turn h1 hg (fun r e=>(hr r e).2),R_turn h2 hg (fun r e=>(hr r e).2)⟩) (ownFrom_below (zM _) (by omega)))
  (fun _ _ _ _ _ hh _ _=>hh)
  ⟨⟨_,b0,Kd.R_nil _ _ _ _ _⟩,HBX⟩
  (fun x a' W=>∃ Bx,w1.heap.size ≤ Bx ∧ W.heap[Bx]? = some (.cells #[.int .u8 x.f0,.int .u8 x.f1.f0,.int .u32 x.f1.f1,.int .u32 x.f1.f2,.int .i64 x.f2,.int .u8 x.f3,.int .u32 x.f4] 62 (0,0)) ∧
   a' = { tmps:=#[.slice none 0 0,.func (.func 94) #[] #[.pointer (some ⟨B1,0,none⟩),.pointer (some ⟨B2,0,none⟩)],.pointer (some ⟨w.heap.size,0,none⟩),undef,.slice none 0 0,.pointer (some ⟨Bx,0,none⟩),.func (.func 94) #[] #[.pointer (some ⟨B1,0,none⟩),.pointer (some ⟨B2,0,none⟩)],.agg #[.int .u8 x.f0,.int .u8 x.f1.f0,.int .u32 x.f1.f1,.int .u32 x.f1.f2,.int .i64 x.f2,.int .u8 x.f3,.int .u32 x.f4],undef,undef,undef,undef,undef],defers:=[] })
  (fun x a' s X Y row hh hg hr=>by
   obtain ⟨Bx,h1,h2,h3⟩:=hh;exact ⟨Bx,h1,blk_turn h2 hg (fun r e=>(hr r e).2),h3⟩)
  ?assign ?body ?done ?stop
 case assign =>
  rintro l pre x W K ⟨⟨v,hv,hR⟩,hB⟩ hK;dsimp only [encE];gi_wp2;have hsW:=hB.size;exact hK _ _ ((KeepsOthers.alloc _ _).from _) ⟨(zS _ W).alloc (by omega) _,fun o h=>yE h _,fun o h=>yE h _⟩ ⟨⟨v,yE hv _,Kd.R_below hR ((zS _ W).alloc (zM _) _)⟩,hB.alloc hB.size _⟩ ⟨W.heap.size,by have:=blk_lt hv;omega,yL W _,rfl⟩
 case body =>
  rintro l pre x a' W hl hr ⟨⟨v,hv,hR⟩,hB⟩ ⟨Bx,hBx,bX,rfl⟩ hlt;have hv0:=(zI hv 0).trans (show _ = some v from rfl);have s_:=cells7 bX;have hsW:=hB.size;have hp:=hlt;gi_wp2_with (gi_at_builtin;refine R_append_in k62 (w0:=w) (W:=W) w.heap.size rfl _ _ 24 62 _ 32 rfl Tryz.underlying24 info62 rfl (by decide) (by decide) v pre x [.int .u8 x.f0,.int .u8 x.f1.f0,.int .u32 x.f1.f1,.int .u32 x.f1.f2,.int .i64 x.f2,.int .u8 x.f3,.int .u32 x.f4] (fun _=>True) (fun _=>False) rfl rfl (k62_mkM _ _ _ x) (fun _ h=>h.elim) (fun _ _=>trivial) hR hB hB.size (by omega) ?_;intro v1 w1' hR1 hB1 hg1 hat1;have hs1:=own_slice hR1.2.choose_spec.1;obtain ⟨A1,c1,rfl⟩:=hs1;have hv1:=blk_grown hv hg1 (own_cell_ne hv hR.2.choose_spec.1 (by decide));have hv2:=yA hv1 0;have hv3:=(zI hv1 0).trans (show _ = some v from rfl))
  have hR2 : Kd.R k62 62 w1' w.heap.size (fun _=>True) (.slice A1 (pre.length + 1) c1) (pre ++ [x]):=by simpa using hR1
  have hbase : ∀ j,v.ownBlock = some j → w.heap.size ≤ j:=fun j e=>Kd.R_base hR j e
  have hcells : ∀ (j : Nat) (o : Obj),v.ownBlock = some j → W.heap[j]? = some o → o.isCells = true:=fun j o e ho=>by
   obtain ⟨cells,hc⟩:=own_typed hR.2.choose_spec.1 j e;rw [hc] at ho;cases ho;rfl
  have hold : ∀ (g : Nat) (o : Obj),g < w.heap.size → W.heap[g]? = some o → (w1'.setCell ⟨w.heap.size,0,none⟩ (.slice A1 (pre.length + 1) c1)).heap[g]? = some o:=fun g o hg ho=>by
   rw [Below.heap_setCell _ _ _ _ (by show g ≠ w.heap.size;omega)];exact blk_grown ho hg1 (fun e=>by have:=hbase g e.symm;omega)
  have hbel : Below w.heap.size W (w1'.setCell ⟨w.heap.size,0,none⟩ (.slice A1 (pre.length + 1) c1)):=(((zS w.heap.size W).grown hg1 hsW hbase).setCell (p:=⟨w.heap.size,0,none⟩) (zM _) _)
  have hR3:=yD (Kd.R_far (Kd.R_types hR2 hv1 (by decide)) (p:=⟨w.heap.size,0,none⟩) (fun k hk=>hk.2) (.slice A1 (pre.length + 1) c1)) (fun _ hk=>hk.1);exact ⟨((KeepsOthers.of_grownBy hg1 hcells).trans (KeepsOthers.setCell _ _ _)).from _,⟨hbel.mono l0,fun o ho=>hold B1 o l1 ho,fun o ho=>hold B2 o l2 ho⟩,⟨_,blk_put hv1 0 _ rfl,hR3⟩,hB.trans hbel⟩
 case done =>
  rintro D ys W hD rfl ⟨⟨v,hv,hR⟩,hB⟩ hK;have hv0:=(zI hv 0).trans (show _ = some v from rfl);gi_wp2;refine ⟨by simp,.inl ⟨_,_,rfl,run_takeDeferred hK,?_⟩⟩;exact ⟨_,results_tmp rfl _ _ _,v,rfl,R_turn hR (grownBy_putObj' W D _) (fun r e=>by cases e;exact ⟨_,hK,rfl⟩),hB.trans (belowK_b (w:=w) (zM _) W D _ _ (by omega) hK rfl rfl)⟩
 case stop =>
  rintro D cc pre W _ _ h _;exact h.elim
set_option maxRecDepth 100000 in
set_option maxHeartbeats 4000000 in
theorem Collect_due (k : Nat) (w0 : World) (B1 B2 : Nat) (tR tN : Nat) (cR cN : Array Value) (A : Option Addr) (c : Nat) (held : List S62) (cur : Int) (AK : Option Addr) (ck : Nat) (kn : List S67)
 (h5 : cR[5]? = some (.slice A held.length c)) (h4 : cN[4]? = some (.int .u8 cur)) (h6 : cN[6]? = some (.slice AK kn.length ck))
 (HR : Kd.C k62 w0 A held.length held) (HK : Kd.C k67 w0 AK kn.length kn) (hck : kn.length ≤ ck) (hkr : know_Right.f k kn = some true) (hlen : held.length ≤ 400000)
 (w : World) (hW : Below w0.heap.size w0 w) (hb1 : w.heap[B1]? = some (.cells cR tR (0,0))) (hb2 : w.heap[B2]? = some (.cells cN tN (0,0))) :
 Calls Tryz.prog 66 #[.func (.func 94) #[] #[.pointer (some ⟨B1,0,none⟩),.pointer (some ⟨B2,0,none⟩)]] w
  fun e w'=>∃ v,e = .returned v ∧ Kd.R k62 62 w' w.heap.size (fun _=>True) v (held.filter (dueB cur kn)) ∧ Below w.heap.size w w':=by
 have HA:=zA (AppendSeq_due k w0 B1 B2 tR tN cR cN A c held cur AK ck kn h5 h4 h6 HR HK hck hkr hlen w hW hb1 hb2);clear h5 h4 h6 HR HK hck hkr hlen hW hb1 hb2;go_enter Tryz.func66,Tryz.ntmps66;go_wp2_with fail;refine HA.out.mono ?_;rintro e w1 ⟨v,rfl,hR,hB⟩;have HR:=zA hR;have HB:=zA hB;clear hR hB;go_wp2_with fail;go_ret;exact ⟨_,rfl,HR.out,HB.out⟩
set_option maxRecDepth 100000 in
set_option maxHeartbeats 4000000 in
theorem due_call (a0_0 a0_1 a0_2 a0_3 : Int) (A0_4 : Option Addr) (c0_4 : Nat) (l0_4 : List S67) (A0_5 : Option Addr) (c0_5 : Nat) (l0_5 : List S62) (a0_6 : Bool) (a0_7 a0_8 a0_9 a0_10 : Int) (A0_11 : Option Addr) (c0_11 : Nat) (l0_11 : List S67) (a0_12 : Int) (a1_0 a1_1 a1_2 a1_3 a1_4 a1_5 : Int) (A1_6 : Option Addr) (c1_6 : Nat) (l1_6 : List S67) (a1_7 : Int) (A1_8 : Option Addr) (c1_8 : Nat) (l1_8 : List S62) (a1_9 : Int) (a1_10 : Bool) (A1_11 : Option Addr) (c1_11 : Nat) (l1_11 : List S67) (w : World) :
 Calls Tryz.prog 67 #[.agg #[.int .u8 a0_0,.int .u8 a0_1,.int .u32 a0_2,.int .u32 a0_3,.slice A0_4 l0_4.length c0_4,.slice A0_5 l0_5.length c0_5,.bool a0_6,.int .u32 a0_7,.int .u8 a0_8,.int .u8 a0_9,.int .u32 a0_10,.slice A0_11 l0_11.length c0_11,.int .u32 a0_12],.agg #[.int .i64 a1_0,.int .u8 a1_1,.int .u8 a1_2,.int .u32 a1_3,.int .u8 a1_4,.int .u8 a1_5,.slice A1_6 l1_6.length c1_6,.int .u32 a1_7,.slice A1_8 l1_8.length c1_8,.int .u8 a1_9,.bool a1_10,.slice A1_11 l1_11.length c1_11]] w fun e w'=>e = .returned (.func (.func 94) #[] #[.pointer (some ⟨w.heap.size,0,none⟩),.pointer (some ⟨w.heap.size + 1,0,none⟩)]) ∧ w' = (w.alloc (.cells #[.int .u8 a0_0,.int .u8 a0_1,.int .u32 a0_2,.int .u32 a0_3,.slice A0_4 l0_4.length c0_4,.slice A0_5 l0_5.length c0_5,.bool a0_6,.int .u32 a0_7,.int .u8 a0_8,.int .u8 a0_9,.int .u32 a0_10,.slice A0_11 l0_11.length c0_11,.int .u32 a0_12] 28)).alloc (.cells #[.int .i64 a1_0,.int .u8 a1_1,.int .u8 a1_2,.int .u32 a1_3,.int .u8 a1_4,.int .u8 a1_5,.slice A1_6 l1_6.length c1_6,.int .u32 a1_7,.slice A1_8 l1_8.length c1_8,.int .u8 a1_9,.bool a1_10,.slice A1_11 l1_11.length c1_11] 30):=by
 have hmf : ∀ (fn : Fn) (first cap : Array Value) (w : World),(Instr.makeFunc fn first cap).run Tryz.prog w = .ok (.func fn first cap) w:=fun _ _ _ _=>rfl
 go_enter Tryz.func67,Tryz.ntmps67;go_wp2;go_ret;exact ⟨rfl,rfl⟩
end Go.Proofs.YtiminjibcafkaaaGreatDoor.X
end
section
namespace Go.Proofs.YtiminjibcafkaaaGreatDoor.X
open RowKit YtiminjibcafkaaaGreatDoorW.PrintWords YtiminjibcafkaaaGreatDoorW.PrintLast YtiminjibcafkaaaGreatDoorW.PrintMore
attribute [local go_sem] max2_int min2_int max_two min_two max_three min_three max_four min_four
mutual
def note_batch.j0 : Nat → Int → Int → Int → Int → Int → Int → Int → List (S67) → Int → List (S62) → Int → Bool → List (S67) → Option (Bool)
 | 0,_,_,_,_,_,_,_,_,_,_,_,_,_=>none
 | k + 1,x3,x135000,x135001,x135002,x135003,x135004,x135005,x135006,x135007,x135008,x135009,x135010,x135011=>if x135005 = 0 then (if (x135006.length : Int) > 0 then (note_batch.j1 k x3 true x135000 x135001 x135002 x135003 x135004 x135005 x135006 x135007 x135008 x135009 x135010 x135011) else ((item_Right.f k x135008).bind fun t136=>(if t136 = true then (if (x135008.length : Int) > 4 then (note_batch.j1 k x3 true x135000 x135001 x135002 x135003 x135004 x135005 x135006 x135007 x135008 x135009 x135010 x135011) else ((know_Right.f k x135011).bind fun t137=>(note_batch.j1 k x3 (!t137) x135000 x135001 x135002 x135003 x135004 x135005 x135006 x135007 x135008 x135009 x135010 x135011))) else (note_batch.j1 k x3 true x135000 x135001 x135002 x135003 x135004 x135005 x135006 x135007 x135008 x135009 x135010 x135011)))) else (note_batch.j1 k x3 true x135000 x135001 x135002 x135003 x135004 x135005 x135006 x135007 x135008 x135009 x135010 x135011)
def note_batch.j1 : Nat → Int → Bool → Int → Int → Int → Int → Int → Int → List (S67) → Int → List (S62) → Int → Bool → List (S67) → Option (Bool)
 | 0,_,_,_,_,_,_,_,_,_,_,_,_,_,_=>none
 | k + 1,x3,x20,x135000,x135001,x135002,x135003,x135004,x135005,x135006,x135007,x135008,x135009,x135010,x135011=>if x20 = true then (some false) else (if (x135008.length : Int) > 0 then (if 0 < (x135008.length : Int) then (if ((rd_T62 x135008 0).f0) < x135004 then (note_batch.j2 k true x135000 x135001 x135002 x135003 x135004 x135005 x135006 x135007 x135008 x135009 x135010 x135011) else (note_batch.j2 k (x135009 != x3) x135000 x135001 x135002 x135003 x135004 x135005 x135006 x135007 x135008 x135009 x135010 x135011)) else (none)) else (note_batch.j2 k (x135009 != x3) x135000 x135001 x135002 x135003 x135004 x135005 x135006 x135007 x135008 x135009 x135010 x135011))
def note_batch.j2 : Nat → Bool → Int → Int → Int → Int → Int → Int → List (S67) → Int → List (S62) → Int → Bool → List (S67) → Option (Bool)
 | 0,_,_,_,_,_,_,_,_,_,_,_,_,_=>none
 | k + 1,x48,x135000,x135001,x135002,x135003,x135004,x135005,x135006,x135007,x135008,x135009,x135010,x135011=>if x48 = true then (some false) else (if x135004 > 0 then (if (x135011.length : Int) > 0 then (some false) else (if x135010 = true then (some true) else (if (x135008.length : Int) = 4 then (some (decide (x135009 < 64))) else (some false)))) else (if x135010 = true then (some true) else (if (x135008.length : Int) = 4 then (some (decide (x135009 < 64))) else (some false))))
end
def note_batch.f (k : Nat) (a0_0 : Int) (a0_1 : Int) (a0_2 : Int) (a0_3 : Int) (a0_4 : Int) (a0_5 : Int) (l0_6 : List (S67)) (a0_7 : Int) (l0_8 : List (S62)) (a0_9 : Int) (a0_10 : Bool) (l0_11 : List (S67)) : Option (Bool):=if (l0_8.length : Int) > 0 then (if 0 ≤ (wrap64 ((l0_8.length : Int) - 1)) then (if (wrap64 ((l0_8.length : Int) - 1)) < (l0_8.length : Int) then (note_batch.j0 k ((((rd_T62 l0_8 (wrap64 ((l0_8.length : Int) - 1))).f0) + 1) % 256) a0_0 a0_1 a0_2 a0_3 a0_4 a0_5 l0_6 a0_7 l0_8 a0_9 a0_10 l0_11) else (none)) else (none)) else (note_batch.j0 k a0_4 a0_0 a0_1 a0_2 a0_3 a0_4 a0_5 l0_6 a0_7 l0_8 a0_9 a0_10 l0_11)
set_option maxHeartbeats 8000000 in
set_option maxRecDepth 100000 in
theorem note_batch.calls (k : Nat) (a0_0 : Int) (a0_1 : Int) (a0_2 : Int) (a0_3 : Int) (a0_4 : Int) (a0_5 : Int) (A0_6 : Option Addr) (c0_6 : Nat) (l0_6 : List (S67)) (a0_7 : Int) (A0_8 : Option Addr) (c0_8 : Nat) (l0_8 : List (S62)) (a0_9 : Int) (a0_10 : Bool) (A0_11 : Option Addr) (c0_11 : Nat) (l0_11 : List (S67)) (r : Bool) (w : World) (hr0_6 : Kd.C k67 w A0_6 l0_6.length l0_6) (hc0_6 : l0_6.length ≤ c0_6) (hr0_8 : Kd.C k62 w A0_8 l0_8.length l0_8) (hc0_8 : l0_8.length ≤ c0_8) (hr0_11 : Kd.C k67 w A0_11 l0_11.length l0_11) (hc0_11 : l0_11.length ≤ c0_11) (h : note_batch.f k a0_0 a0_1 a0_2 a0_3 a0_4 a0_5 l0_6 a0_7 l0_8 a0_9 a0_10 l0_11 = some r) :
 Calls Tryz.prog 49 #[.agg #[.int .i64 a0_0,.int .u8 a0_1,.int .u8 a0_2,.int .u32 a0_3,.int .u8 a0_4,.int .u8 a0_5,.slice A0_6 l0_6.length c0_6,.int .u32 a0_7,.slice A0_8 l0_8.length c0_8,.int .u8 a0_9,.bool a0_10,.slice A0_11 l0_11.length c0_11]] w fun e w'=>e = .returned (.bool r) ∧ Below w.heap.size w w':=by
 have hu30:=Tryz.underlying30;have HR0_6:=zA hr0_6;have HC0_6:=zA hc0_6;clear hr0_6 hc0_6;have HR0_8:=zA hr0_8;have HC0_8:=zA hc0_8;clear hr0_8 hc0_8;have HR0_11:=zA hr0_11;have HC0_11:=zA hc0_11;clear hr0_11 hc0_11;have HB:=zA (zS w.heap.size w);have H : (if (l0_8.length : Int) > 0 then (if 0 ≤ (wrap64 ((l0_8.length : Int) - 1)) then (if (wrap64 ((l0_8.length : Int) - 1)) < (l0_8.length : Int) then (note_batch.j0 k ((((rd_T62 l0_8 (wrap64 ((l0_8.length : Int) - 1))).f0) + 1) % 256) a0_0 a0_1 a0_2 a0_3 a0_4 a0_5 l0_6 a0_7 l0_8 a0_9 a0_10 l0_11) else (none)) else (none)) else (note_batch.j0 k a0_4 a0_0 a0_1 a0_2 a0_3 a0_4 a0_5 l0_6 a0_7 l0_8 a0_9 a0_10 l0_11)) = some r:=h;clear h;have HC2:=zA H;clear H;go_enter Tryz.func49,Tryz.ntmps49;go_upto_if 11 with (((with_reducible refine gate_dst (N:=1) rfl ?_);(try (refine gate_guard (by rfl) ?_;dsimp only));refine box_event ?hg (N:=1) ?hd (cs:=#[.int .i64 a0_0,.int .u8 a0_1,.int .u8 a0_2,.int .u32 a0_3,.int .u8 a0_4,.int .u8 a0_5,.slice A0_6 l0_6.length c0_6,.int .u32 a0_7,.slice A0_8 l0_8.length c0_8,.int .u8 a0_9,.bool a0_10,.slice A0_11 l0_11.length c0_11]) (t:=30) ?hr ?_;(case hd=>rfl);(case hg=>rfl);(case hr=>(go_simp;done));intro gb134 hg w3 hbox hb;have n0_:=zA (zG HB.out hb);have n1_:=zA (hbox);have n2_:=zA ((by rw [hg];exact (zX HB.out) : w.heap.size ≤ gb134));have n3_:=zA ((by rw [hg];exact (zX HB.out) : w.heap.size ≤ gb134));clear HB;have HB:=n0_;have BK134:=n1_;have GW134:=n2_;have GE134:=n3_;clear n0_ n1_ n2_ n3_ hb hbox hg;obtain ⟨hcz4_0,hcz4_1,hcz4_2,hcz4_3,hcz4_4,hcz4_5,hcz4_6,hcz4_7,hcz4_8,hcz4_9,hcz4_10,hcz4_11⟩:=cells12 BK134.out))
 go_cut [3] (fun v3 wc=>∃ (kq : Nat) (x3_1 : Int),v3 = .int .u8 x3_1 ∧ Aside0 (note_batch.j0 kq x3_1 a0_0 a0_1 a0_2 a0_3 a0_4 a0_5 l0_6 a0_7 l0_8 a0_9 a0_10 l0_11 = some r) ∧ Aside0 (kq ≤ k) ∧ Aside0 (wc.heap[gb134]? = some (.cells #[.int .i64 a0_0,.int .u8 a0_1,.int .u8 a0_2,.int .u32 a0_3,.int .u8 a0_4,.int .u8 a0_5,(.slice A0_6 l0_6.length c0_6),.int .u32 a0_7,(.slice A0_8 l0_8.length c0_8),.int .u8 a0_9,.bool a0_10,(.slice A0_11 l0_11.length c0_11)] 30 (0,0))) ∧ Aside0 (Below w.heap.size w wc))
 case first =>
  have H:=HC2.out;clear HC2;by_cases c5 : (l0_8.length : Int) > 0
  ·rw [if_pos c5] at H;have c5b0 : decide (0 < (l0_8.length : Int)) = true:=zE c5;have c5b1 : decide (0 < l0_8.length) = true:=zE (by omega);clear c5;(first | skip);(try rw [c5b1]);obtain ⟨ji6,hji6⟩ : ∃ j_ : Int,(wrap64 ((l0_8.length : Int) - 1)) = j_:=⟨_,rfl⟩
   replace H : (if 0 ≤ (ji6) then (if (ji6) < (l0_8.length : Int) then (note_batch.j0 k ((((rd_T62 l0_8 (ji6)).f0) + 1) % 256) a0_0 a0_1 a0_2 a0_3 a0_4 a0_5 l0_6 a0_7 l0_8 a0_9 a0_10 l0_11) else (none)) else (none)) = some r:=by (rw [hji6] at H;exact H)
   have hji6w : (IntKind.i64.wrap ((l0_8.length : Int) - 1)) = ji6:=(i64_w _).trans hji6;by_cases c7 : 0 ≤ (ji6)
   ·rw [if_pos c7] at H;have c7b0 : decide (0 ≤ (ji6)) = true:=zE c7;clear c7;by_cases c8 : (ji6) < (l0_8.length : Int)
    ·rw [if_pos c8] at H;have c8b0 : decide ((ji6) < (l0_8.length : Int)) = true:=zE c8;clear c8;have H':=zA H;clear H;have hcz9_:=cells12 BK134.out;have p135 : 0 ≤ ((ji6) : Int):=oA;have q135 : (ji6) < (l0_8.length : Int):=oA;obtain ⟨ad135,e135,hx135_0,hx135_1,hx135_2,hx135_3,hx135_4,hx135_5,hx135_6⟩:=at_T62 HR0_8.out (ji6) p135 q135;cases e135;replace hx135_0:=(HB.out.cell (zB w _ hx135_0)).trans hx135_0;replace hx135_1:=(HB.out.cell (zB w _ hx135_1)).trans hx135_1;replace hx135_2:=(HB.out.cell (zB w _ hx135_2)).trans hx135_2;replace hx135_3:=(HB.out.cell (zB w _ hx135_3)).trans hx135_3;replace hx135_4:=(HB.out.cell (zB w _ hx135_4)).trans hx135_4;replace hx135_5:=(HB.out.cell (zB w _ hx135_5)).trans hx135_5;replace hx135_6:=(HB.out.cell (zB w _ hx135_6)).trans hx135_6;replace p135:=eq_true p135;replace q135:=eq_true q135;go_wp2;go_meet
     case rel=>exact ⟨_,((((rd_T62 l0_8 (ji6)).f0) + 1) % 256),(by rfl),H',⟨by first | omega⟩,⟨BK134.out⟩,⟨HB.out⟩⟩
    ·rw [if_neg c8] at H;exact absurd H (by simp)
   ·rw [if_neg c7] at H;exact absurd H (by simp)
  ·rw [if_neg c5] at H;have c5b0 : decide (0 < (l0_8.length : Int)) = false:=zF c5;have c5b1 : decide (0 < l0_8.length) = false:=zF (by omega);clear c5;(first | skip);(try rw [c5b1]);have H':=zA H;clear H;go_wp2;go_meet
   case rel=>exact ⟨_,(a0_4),(by rfl),H',⟨by first | omega⟩,⟨BK134.out⟩,⟨HB.out⟩⟩
 case rest =>
  clear HC2;clear hcz4_0 hcz4_1 hcz4_10 hcz4_11 hcz4_2 hcz4_3 hcz4_4 hcz4_5 hcz4_6 hcz4_7 hcz4_8 hcz4_9;obtain ⟨kq,x3_1,rfl,HA,HJ1,BK134,HB⟩:=hcut;cases kq with
  | zero=>exact absurd HA.out (by simp [note_batch.j0])
  | succ kj1 =>
   have H:=HA.out;clear HA;simp only [note_batch.j0] at H;have HC10:=zA H;clear H;go_upto_region 5 with (fail)
   go_cut [20] (fun v20 wc=>∃ (kq : Nat) (x20_9 : Bool),v20 = .bool x20_9 ∧ Aside0 (note_batch.j1 kq x3_1 x20_9 a0_0 a0_1 a0_2 a0_3 a0_4 a0_5 l0_6 a0_7 l0_8 a0_9 a0_10 l0_11 = some r) ∧ Aside0 (kq ≤ kj1) ∧ Aside0 (wc.heap[gb134]? = some (.cells #[.int .i64 a0_0,.int .u8 a0_1,.int .u8 a0_2,.int .u32 a0_3,.int .u8 a0_4,.int .u8 a0_5,(.slice A0_6 l0_6.length c0_6),.int .u32 a0_7,(.slice A0_8 l0_8.length c0_8),.int .u8 a0_9,.bool a0_10,(.slice A0_11 l0_11.length c0_11)] 30 (0,0))) ∧ Aside0 (Below w.heap.size w wc))
   case first =>
    have H:=HC10.out;clear HC10;by_cases c11 : a0_5 = 0
    ·rw [if_pos c11] at H;have c11b0 : (a0_5 == 0) = true:=yB.mpr c11;have c11b1 : (a0_5 != 0) = false:=zU.mpr c11;clear c11;(first | skip);by_cases c12 : (l0_6.length : Int) > 0
     ·rw [if_pos c12] at H;have c12b0 : decide (0 < (l0_6.length : Int)) = true:=zE c12;have c12b1 : decide (0 < l0_6.length) = true:=zE (by omega);clear c12;have H':=zA H;clear H;have hcz13_:=cells12 BK134.out;go_wp2;go_meet
      case rel=>exact ⟨_,(true),(by rfl),H',⟨by have:=HJ1.out;first | omega⟩,⟨BK134.out⟩,⟨HB.out⟩⟩
     ·rw [if_neg c12] at H;have c12b0 : decide (0 < (l0_6.length : Int)) = false:=zF c12;have c12b1 : decide (0 < l0_6.length) = false:=zF (by omega);clear c12;replace H:=zJ.mp H;obtain ⟨t136,A140,H⟩:=H;have A14:=zA A140;clear A140;by_cases c15 : t136 = true
      ·subst c15;rw [if_pos rfl] at H;by_cases c16 : (l0_8.length : Int) > 4
       ·rw [if_pos c16] at H;have c16b0 : decide (4 < (l0_8.length : Int)) = true:=zE c16;have c16b1 : decide (4 < l0_8.length) = true:=zE (by omega);clear c16;have H':=zA H;clear H;have hcz17_:=cells12 BK134.out;go_wp2_with ((go_at_call 51;(with_reducible refine (item_Right.calls kj1 _ _ l0_8 true _ ?side1 ?side2 A14.out).mono ?_);(case side1=>repeat (first | exact (zL HR0_8.out HB.out)));(case side2=>exact HC0_8.out);rintro e w18 ⟨rfl,hb⟩;replace BK134:=zA (zC BK134.out hb);replace HB:=zA (zG HB.out hb);(try clear hb);have hcz19_:=cells12 BK134.out))
        go_meet
        case rel=>exact ⟨_,(true),(by rfl),H',⟨by have:=HJ1.out;first | omega⟩,⟨BK134.out⟩,⟨HB.out⟩⟩
       ·rw [if_neg c16] at H;have c16b0 : decide (4 < (l0_8.length : Int)) = false:=zF c16;have c16b1 : decide (4 < l0_8.length) = false:=zF (by omega);clear c16;replace H:=zJ.mp H;obtain ⟨t137,A200,H⟩:=H;have A20:=zA A200;clear A200;have H':=zA H;clear H;have hcz21_:=cells12 BK134.out;go_wp2_with (first | (go_at_call 51;(with_reducible refine (item_Right.calls kj1 _ _ l0_8 true _ ?side1 ?side2 A14.out).mono ?_);(case side1=>repeat (first | exact (zL HR0_8.out HB.out)));(case side2=>exact HC0_8.out);rintro e w22 ⟨rfl,hb⟩;replace BK134:=zA (zC BK134.out hb);replace HB:=zA (zG HB.out hb);(try clear hb);have hcz23_:=cells12 BK134.out) | (go_at_call 50;(with_reducible refine (know_Right.calls kj1 _ _ l0_11 t137 _ ?side1 ?side2 A20.out).mono ?_);(case side1=>repeat (first | exact (zL HR0_11.out HB.out)));(case side2=>exact HC0_11.out);rintro e w24 ⟨rfl,hb⟩;replace BK134:=zA (zC BK134.out hb);replace HB:=zA (zG HB.out hb);(try clear hb)))
        go_meet
        case rel=>exact ⟨_,(!t137),(by rfl),H',⟨by have:=HJ1.out;first | omega⟩,⟨BK134.out⟩,⟨HB.out⟩⟩
      ·replace c15:=Bool.eq_false_iff.mpr c15;subst c15;rw [if_neg (show ¬ (false = true) by decide)] at H;have H':=zA H;clear H;have hcz25_:=cells12 BK134.out;go_wp2_with ((go_at_call 51;(with_reducible refine (item_Right.calls kj1 _ _ l0_8 false _ ?side1 ?side2 A14.out).mono ?_);(case side1=>repeat (first | exact (zL HR0_8.out HB.out)));(case side2=>exact HC0_8.out);rintro e w26 ⟨rfl,hb⟩;replace BK134:=zA (zC BK134.out hb);replace HB:=zA (zG HB.out hb);(try clear hb)))
       go_meet
       case rel=>exact ⟨_,(true),(by rfl),H',⟨by have:=HJ1.out;first | omega⟩,⟨BK134.out⟩,⟨HB.out⟩⟩
    ·rw [if_neg c11] at H;have c11b0 : (a0_5 == 0) = false:=zR.mpr c11;have c11b1 : (a0_5 != 0) = true:=yF.mpr c11;(first | skip);have H':=zA H;clear H;have hcz27_:=cells12 BK134.out;go_wp2;go_meet
     case rel=>exact ⟨_,(true),(by rfl),H',⟨by have:=HJ1.out;first | omega⟩,⟨BK134.out⟩,⟨HB.out⟩⟩
   case rest =>
    clear HC10;obtain ⟨kq,x20_9,rfl,HA,HJ9,BK134,HB⟩:=hcut;cases kq with
    | zero=>exact absurd HA.out (by simp [note_batch.j1])
    | succ kj9 =>
     have H:=HA.out;clear HA;simp only [note_batch.j1] at H;by_cases c28 : x20_9 = true
     ·subst c28;rw [if_pos rfl] at H;obtain rfl:=zH H;go_wp2;go_ret;exact ⟨by rfl,HB.out⟩
     ·replace c28:=Bool.eq_false_iff.mpr c28;subst c28;rw [if_neg (show ¬ (false = true) by decide)] at H;have HC29:=zA H;clear H;go_upto_region 7 with (fail)
      go_cut [48] (fun v48 wc=>∃ (kq : Nat) (x48_28 : Bool),v48 = .bool x48_28 ∧ Aside0 (note_batch.j2 kq x48_28 a0_0 a0_1 a0_2 a0_3 a0_4 a0_5 l0_6 a0_7 l0_8 a0_9 a0_10 l0_11 = some r) ∧ Aside0 (kq ≤ kj9) ∧ Aside0 (wc.heap[gb134]? = some (.cells #[.int .i64 a0_0,.int .u8 a0_1,.int .u8 a0_2,.int .u32 a0_3,.int .u8 a0_4,.int .u8 a0_5,(.slice A0_6 l0_6.length c0_6),.int .u32 a0_7,(.slice A0_8 l0_8.length c0_8),.int .u8 a0_9,.bool a0_10,(.slice A0_11 l0_11.length c0_11)] 30 (0,0))) ∧ Aside0 (Below w.heap.size w wc))
      case first =>
       have H:=HC29.out;clear HC29;by_cases c30 : (l0_8.length : Int) > 0
       ·rw [if_pos c30] at H;have c30b0 : decide (0 < (l0_8.length : Int)) = true:=zE c30;have c30b1 : decide (0 < l0_8.length) = true:=zE (by omega);clear c30;(first | skip);by_cases c31 : 0 < (l0_8.length : Int)
        ·rw [if_pos c31] at H;have c31b0 : decide (0 < (l0_8.length : Int)) = true:=zE c31;have c31b1 : decide (0 < l0_8.length) = true:=zE (by omega);clear c31;by_cases c32 : ((rd_T62 l0_8 0).f0) < a0_4
         ·rw [if_pos c32] at H;have c32b0 : decide (((rd_T62 l0_8 0).f0) < a0_4) = true:=zE c32;clear c32;have H':=zA H;clear H;have hcz33_:=cells12 BK134.out;have p138 : 0 ≤ (0 : Int):=(by omega)
          have q138 : 0 < (l0_8.length : Int):=oA;obtain ⟨ad138,e138,hx138_0,hx138_1,hx138_2,hx138_3,hx138_4,hx138_5,hx138_6⟩:=at_T62 HR0_8.out 0 p138 q138;cases e138;have qi138 : (0 < l0_8.length) = True:=eq_true (by omega);(try rw [show ((0 : Int)).toNat = 0 from rfl] at hx138_0);(try rw [show 0 * 7 = 0 from rfl] at hx138_0);(try rw [Addr.add_zero'] at hx138_0);(try rw [show ((0 : Int)).toNat = 0 from rfl] at hx138_1);(try rw [show 0 * 7 = 0 from rfl] at hx138_1);(try rw [Addr.add_zero'] at hx138_1);(try rw [show ((0 : Int)).toNat = 0 from rfl] at hx138_2);(try rw [show 0 * 7 = 0 from rfl] at hx138_2);(try rw [Addr.add_zero'] at hx138_2);(try rw [show ((0 : Int)).toNat = 0 from rfl] at hx138_3);(try rw [show 0 * 7 = 0 from rfl] at hx138_3);(try rw [Addr.add_zero'] at hx138_3);(try rw [show ((0 : Int)).toNat = 0 from rfl] at hx138_4);(try rw [show 0 * 7 = 0 from rfl] at hx138_4);(try rw [Addr.add_zero'] at hx138_4);(try rw [show ((0 : Int)).toNat = 0 from rfl] at hx138_5);(try rw [show 0 * 7 = 0 from rfl] at hx138_5);(try rw [Addr.add_zero'] at hx138_5);(try rw [show ((0 : Int)).toNat = 0 from rfl] at hx138_6);(try rw [show 0 * 7 = 0 from rfl] at hx138_6);(try rw [Addr.add_zero'] at hx138_6);replace hx138_0:=(HB.out.cell (zB w _ hx138_0)).trans hx138_0;replace hx138_1:=(HB.out.cell (zB w _ hx138_1)).trans hx138_1;replace hx138_2:=(HB.out.cell (zB w _ hx138_2)).trans hx138_2;replace hx138_3:=(HB.out.cell (zB w _ hx138_3)).trans hx138_3;replace hx138_4:=(HB.out.cell (zB w _ hx138_4)).trans hx138_4;replace hx138_5:=(HB.out.cell (zB w _ hx138_5)).trans hx138_5;replace hx138_6:=(HB.out.cell (zB w _ hx138_6)).trans hx138_6;replace p138:=eq_true p138;replace q138:=eq_true q138;go_wp2
          repeat (go_quiet (fail);try go_wp2)
          go_meet
          case rel=>exact ⟨_,(true),(by rfl),H',⟨by have:=HJ1.out;have:=HJ9.out;first | omega⟩,⟨by (with_reducible repeat (first | refine blk_drewN ?_ _));exact BK134.out⟩,⟨by repeat ((with_reducible first | exact HB.out | apply pw_below_drewN))⟩⟩
         ·rw [if_neg c32] at H;have c32b0 : decide (((rd_T62 l0_8 0).f0) < a0_4) = false:=zF c32;clear c32;have H':=zA H;clear H;have hcz34_:=cells12 BK134.out;have p138 : 0 ≤ (0 : Int):=(by omega)
          have q138 : 0 < (l0_8.length : Int):=oA;obtain ⟨ad138,e138,hx138_0,hx138_1,hx138_2,hx138_3,hx138_4,hx138_5,hx138_6⟩:=at_T62 HR0_8.out 0 p138 q138;cases e138;have qi138 : (0 < l0_8.length) = True:=eq_true (by omega);(try rw [show ((0 : Int)).toNat = 0 from rfl] at hx138_0);(try rw [show 0 * 7 = 0 from rfl] at hx138_0);(try rw [Addr.add_zero'] at hx138_0);(try rw [show ((0 : Int)).toNat = 0 from rfl] at hx138_1);(try rw [show 0 * 7 = 0 from rfl] at hx138_1);(try rw [Addr.add_zero'] at hx138_1);(try rw [show ((0 : Int)).toNat = 0 from rfl] at hx138_2);(try rw [show 0 * 7 = 0 from rfl] at hx138_2);(try rw [Addr.add_zero'] at hx138_2);(try rw [show ((0 : Int)).toNat = 0 from rfl] at hx138_3);(try rw [show 0 * 7 = 0 from rfl] at hx138_3);(try rw [Addr.add_zero'] at hx138_3);(try rw [show ((0 : Int)).toNat = 0 from rfl] at hx138_4);(try rw [show 0 * 7 = 0 from rfl] at hx138_4);(try rw [Addr.add_zero'] at hx138_4);(try rw [show ((0 : Int)).toNat = 0 from rfl] at hx138_5);(try rw [show 0 * 7 = 0 from rfl] at hx138_5);(try rw [Addr.add_zero'] at hx138_5);(try rw [show ((0 : Int)).toNat = 0 from rfl] at hx138_6);(try rw [show 0 * 7 = 0 from rfl] at hx138_6);(try rw [Addr.add_zero'] at hx138_6);replace hx138_0:=(HB.out.cell (zB w _ hx138_0)).trans hx138_0;replace hx138_1:=(HB.out.cell (zB w _ hx138_1)).trans hx138_1;replace hx138_2:=(HB.out.cell (zB w _ hx138_2)).trans hx138_2;replace hx138_3:=(HB.out.cell (zB w _ hx138_3)).trans hx138_3;replace hx138_4:=(HB.out.cell (zB w _ hx138_4)).trans hx138_4;replace hx138_5:=(HB.out.cell (zB w _ hx138_5)).trans hx138_5;replace hx138_6:=(HB.out.cell (zB w _ hx138_6)).trans hx138_6;replace p138:=eq_true p138;replace q138:=eq_true q138;go_wp2
          repeat (go_quiet (fail);try go_wp2)
          go_meet
          case rel=>exact ⟨_,((a0_9 != x3_1)),(by rfl),H',⟨by have:=HJ1.out;have:=HJ9.out;first | omega⟩,⟨by (with_reducible repeat (first | refine blk_drewN ?_ _));exact BK134.out⟩,⟨by repeat ((with_reducible first | exact HB.out | apply pw_below_drewN))⟩⟩
        ·rw [if_neg c31] at H;exact absurd H (by simp)
       ·rw [if_neg c30] at H;have c30b0 : decide (0 < (l0_8.length : Int)) = false:=zF c30;have c30b1 : decide (0 < l0_8.length) = false:=zF (by omega);clear c30;(first | skip);have H':=zA H;clear H;have hcz35_:=cells12 BK134.out;go_wp2
        repeat (go_quiet (fail);try go_wp2)
        go_meet
        case rel=>exact ⟨_,((a0_9 != x3_1)),(by rfl),H',⟨by have:=HJ1.out;have:=HJ9.out;first | omega⟩,⟨by (with_reducible repeat (first | refine blk_drewN ?_ _));exact BK134.out⟩,⟨by repeat ((with_reducible first | exact HB.out | apply pw_below_drewN))⟩⟩
      case rest =>
       clear HC29;obtain ⟨kq,x48_28,rfl,HA,HJ28,BK134,HB⟩:=hcut;cases kq with
       | zero=>exact absurd HA.out (by simp [note_batch.j2])
       | succ kj28 =>
        have H:=HA.out;clear HA;simp only [note_batch.j2] at H;by_cases c36 : x48_28 = true
        ·subst c36;rw [if_pos rfl] at H;obtain rfl:=zH H;go_wp2;go_ret;exact ⟨by rfl,HB.out⟩
        ·replace c36:=Bool.eq_false_iff.mpr c36;subst c36;rw [if_neg (show ¬ (false = true) by decide)] at H;by_cases c37 : a0_4 > 0
         ·rw [if_pos c37] at H;have c37b0 : decide (0 < a0_4) = true:=zE c37;clear c37;by_cases c38 : (l0_11.length : Int) > 0
          ·rw [if_pos c38] at H;have c38b0 : decide (0 < (l0_11.length : Int)) = true:=zE c38;have c38b1 : decide (0 < l0_11.length) = true:=zE (by omega);clear c38;obtain rfl:=zH H;have hcz39_:=cells12 BK134.out;go_wp2;go_ret;exact ⟨by rfl,HB.out⟩
          ·rw [if_neg c38] at H;have c38b0 : decide (0 < (l0_11.length : Int)) = false:=zF c38;have c38b1 : decide (0 < l0_11.length) = false:=zF (by omega);clear c38;by_cases c40 : a0_10 = true
           ·subst c40;rw [if_pos rfl] at H;obtain rfl:=zH H;have hcz41_:=cells12 BK134.out;go_wp2;go_ret;exact ⟨by rfl,HB.out⟩
           ·replace c40:=Bool.eq_false_iff.mpr c40;subst c40;rw [if_neg (show ¬ (false = true) by decide)] at H;by_cases c42 : (l0_8.length : Int) = 4
            ·rw [if_pos c42] at H;have c42b0 : ((l0_8.length : Int) == 4) = true:=yB.mpr c42;have c42b1 : ((l0_8.length : Int) != 4) = false:=zU.mpr c42;clear c42;obtain rfl:=zH H;have hcz43_:=cells12 BK134.out;go_wp2;go_ret;exact ⟨by rfl,HB.out⟩
            ·rw [if_neg c42] at H;have c42b0 : ((l0_8.length : Int) == 4) = false:=zR.mpr c42;have c42b1 : ((l0_8.length : Int) != 4) = true:=yF.mpr c42;obtain rfl:=zH H;have hcz44_:=cells12 BK134.out;go_wp2;go_ret;exact ⟨by rfl,HB.out⟩
         ·rw [if_neg c37] at H;have c37b0 : decide (0 < a0_4) = false:=zF c37;clear c37;by_cases c45 : a0_10 = true
          ·subst c45;rw [if_pos rfl] at H;obtain rfl:=zH H;have hcz46_:=cells12 BK134.out;go_wp2;go_ret;exact ⟨by rfl,HB.out⟩
          ·replace c45:=Bool.eq_false_iff.mpr c45;subst c45;rw [if_neg (show ¬ (false = true) by decide)] at H;by_cases c47 : (l0_8.length : Int) = 4
           ·rw [if_pos c47] at H;have c47b0 : ((l0_8.length : Int) == 4) = true:=yB.mpr c47;have c47b1 : ((l0_8.length : Int) != 4) = false:=zU.mpr c47;clear c47;obtain rfl:=zH H;have hcz48_:=cells12 BK134.out;go_wp2;go_ret;exact ⟨by rfl,HB.out⟩
           ·rw [if_neg c47] at H;have c47b0 : ((l0_8.length : Int) == 4) = false:=zR.mpr c47;have c47b1 : ((l0_8.length : Int) != 4) = true:=yF.mpr c47;obtain rfl:=zH H;have hcz49_:=cells12 BK134.out;go_wp2;go_ret;exact ⟨by rfl,HB.out⟩
end Go.Proofs.YtiminjibcafkaaaGreatDoor.X
end
