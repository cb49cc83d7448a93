/- Texts that this claim's law comes to, joined by wip/slim.py: TFgrow, TAJ47. -/
import Derived.Test.YtiminjibcafkaaaGreatDoorTGJ42
import Derived.Test.YtiminjibcafkaaaGreatDoorTGJ17
import Derived.Test.YtiminjibcafkaaaGreatDoorTGTAXtacc
import Derived.Test.YtiminjibcafkaaaGreatDoorTGTAXhreplicaRight
import Derived.Test.YtiminjibcafkaaaGreatDoorTGTAJ29
import Derived.Test.YtiminjibcafkaaaGreatDoorTGJ16
import Derived.Test.YtiminjibcafkaaaGreatDoorTGTAJ5
import Derived.Test.YtiminjibcafkaaaGreatDoorTGTAJ30
import Derived.Test.YtiminjibcafkaaaGreatDoorTGJ11
import Derived.Test.YtiminjibcafkaaaGreatDoorTGJ26
import Derived.Test.YtiminjibcafkaaaGreatDoorTGTAXaccdef
import Derived.Test.YtiminjibcafkaaaGreatDoorTGTAJ8
set_option linter.unusedSimpArgs false
set_option linter.unusedVariables false
section
namespace Go.Proofs.YtiminjibcafkaaaGreatDoor.X
open Go.RowKit Go.Shelf Go.Proofs.YtiminjibcafkaaaGreatDoorW.PrintWords Go.Proofs.YtiminjibcafkaaaGreatDoorW.PrintLast Go.Proofs.YtiminjibcafkaaaGreatDoorW.PrintMore
theorem On.grow {α : Type} {d : Kd α} (hsz : 0 < d.sz) (hK : ∀ (w w1 : World) x cs,d.K w x cs → d.K w1 x cs) {W w1 : World} {v v1 : Value} {S : Nat → Prop} {A : Option Addr} {c : Nat} {l : List α}
 (h : On d W (fun k=>S k ∧ some k ≠ v.ownBlock) A c l) (hg : W.grownBy w1 v.ownBlock) (hat : v1.ownBlock = v.ownBlock ∨ ∃ b,v1.ownBlock = some b ∧ W.heap.size ≤ b) : On d w1 (fun k=>S k ∧ some k ≠ v1.ownBlock) A c l:=by
 have h':=h.lt hsz;refine ⟨h.len,?_,fun ad e hn=>⟨(h.off ad e hn).1,?_⟩⟩
 ·obtain ⟨h1,h2,h3⟩:=h.row;refine ⟨h1,h2,fun hn=>?_⟩;obtain ⟨ad,e,hc⟩:=h3 hn;refine ⟨ad,e,fun j p' hj=>?_⟩;obtain ⟨cs,a,b,f⟩:=hc j p' hj;exact ⟨cs,a,hK _ _ _ _ b,fun i u' hu=>hg.cell (f i u' hu) (by rw [add_block];exact (h.off ad e (by omega)).2)⟩
 ·rcases hat with e1 | ⟨b,e1,hb⟩
  ·rw [e1];exact (h.off ad e hn).2
  ·rw [e1];intro e2;injection e2 with e2;have:=(h'.off ad e hn).2;omega
theorem box_ne {α : Type} {d : Kd α} {W : World} {g t e base : Nat} {c : Array Value} {ok : Nat → Prop} {v : Value} {xs : List α} (h : W.heap[g]? = some (.cells c t (0,0))) (HT : d.R e W base ok v xs) (ht : t ≠ e) : some g ≠ v.ownBlock:=by
 obtain ⟨_,inner,ho,_⟩:=HT;exact own_cell_ne h ho ht
def Tol (w : World) (base gp : Nat) (A : Option Addr) (m c : Nat) (TT : List S62) : Prop:=Kd.R k62 62 w base (fun k=>gp < k) (.slice A m c) TT
section
variable {w w1 : World} {base gp : Nat} {A : Option Addr} {m c : Nat} {TT : List S62}
theorem Tol.below (h : Tol w base gp A m c TT) (hb : Below w.heap.size w w1) : Tol w1 base gp A m c TT:=Kd.R_below h hb
theorem Tol.puts (h : Tol w base gp A m c TT) {g lo : Nat} {l : List Value} (hw : w1 = put_ w g lo l) (hK : ∀ (w w1 : World) x cs,k62.K w x cs → k62.K w1 x cs) (hS : ∀ k,gp < k → k ≠ g) : Tol w1 base gp A m c TT:=R_puts hS l lo h hw
theorem Tol.fresh (h : Tol w base gp A m c TT) {k : Nat} (hk : w.heap.size ≤ k) : some k ≠ (Value.slice A m c).ownBlock:=fun e=>by
 have:=Kd.R_lt h k e.symm;omega
theorem Tol.on (h : Tol w base gp A m c TT) : On k62 w (fun _=>True) A c TT:=On.of_R h fun _ _ _=>trivial
end
def Stand (s2 a0 a1 a2 a3 n s0 : Int) (k5 D : List S62) (m : Nat) (v0 v1 v2 v3 : Int) (kn : List S67) (hd : List S62) (on : Bool) (v7 v8 v9 v10 : Int) (of : List S67) (v12 n0 n1 n2 n3 n4 n5 : Int) (nk : List S67) (mo : Bool) : Prop :=
 (a0 = v0 ∧ a1 = v1 ∧ a2 = v2 ∧ a3 = v3 ∧ true = on ∧ n = v7 ∧ s0 = v8 ∧ n = v12 ∧ 1 = n0 ∧ a0 = n1 ∧ s0 = n2 ∧ n = n3 ∧ v9 = n4 ∧ a1 = n5 ∧ kn = nk ∧ true = mo ∧ Fet s2 k5 D m v9 v10 of kn hd) ∨
 (D.length = m ∧ false = on ∧ false = mo ∧ hd.length ≤ 900 ∧ rightL hd = true ∧ ∀ y ∈ D,Holds hd y)
theorem acc_next {s2 : Int} {k5 D : List S62} {m j : Nat} {nx cur ep : Int} {of kn mof : List S67} {hd : List S62} {a0 a1 a2 a3 n s0 : Int} {res : RRes} {S : Nat → Prop} {w w' : World} {e : Ending} (hj : m + j ≤ D.length) (H : AftOK s2 k5 D m j nx cur ep of kn mof res)
 (P : RPost errW S w a0 a1 a2 a3 kn hd true n s0 cur ep of n cur s2 nx mof res e w') : ∃ v0 v1 v2 v3 k2 h2 v6 v7 v8 v9 v10 o2 v12 n0 n1 n2 n3 n4 n5 nk mo ec,OutR S w v0 v1 v2 v3 k2 h2 v6 v7 v8 v9 v10 o2 v12 n0 n1 n2 n3 n4 n5 nk mo (errW ec) e w' ∧
  ((∃ c,ec = some c ∧ (c = 5 ∨ c = 9)) ∨ (ec = none ∧ D.length - (m + j) + mo.toNat < D.length - m + 1 ∧ Stand s2 a0 a1 a2 a3 n s0 k5 D (m + j) v0 v1 v2 v3 k2 h2 v6 v7 v8 v9 v10 o2 v12 n0 n1 n2 n3 n4 n5 nk mo)):=by
 cases res with
 | zero c=>exact ⟨_,_,_,_,_,_,_,_,_,_,_,_,_,_,_,_,_,_,_,_,_,some c,P,.inl ⟨c,rfl,H⟩⟩
 | off=>exact H.elim
 | done u h1 =>
  obtain ⟨q1,q2,q3,q4⟩:=H;exact ⟨_,_,_,_,_,_,_,_,_,_,_,_,_,_,_,_,_,_,_,_,_,none,P,.inr ⟨rfl,by show _ + 0 < _;omega,.inr ⟨q1.symm,rfl,rfl,q2,q3,q4⟩⟩⟩
 | more k1 h1 =>
  obtain ⟨q1,q2⟩:=H;exact ⟨_,_,_,_,_,_,_,_,_,_,_,_,_,_,_,_,_,_,_,_,_,none,P,.inr ⟨rfl,by show _ + 1 < _;omega,.inl ⟨rfl,rfl,rfl,rfl,rfl,rfl,rfl,rfl,rfl,rfl,rfl,rfl,rfl,rfl,rfl,rfl,q2⟩⟩⟩
section
variable {P : Program} {ops : Array Oper} {o : Oper} {a : Act} {Q : Exit → Act → World → Prop} {Kc : Act → World → Prop}
theorem box_one {W : World} {cs : Array Value} {t : TypeId} (hw : Region.wanted o (yielded ops a.tmps) = true)
 (hrun : (execOp a.eval o).run P W = .ok (.value (.pointer (some ⟨W.heap.size,0,none⟩))) (W.alloc (.cells cs t (0,0))))
 (h : ∀ w1,w1.heap[W.heap.size]? = some (.cells cs t (0,0)) → Below W.heap.size W w1 → Kc (a.put o.dst (.pointer (some ⟨W.heap.size,0,none⟩))) w1) : if Region.wanted o (yielded ops a.tmps) = true then Oper.wp P o a W Kc Q else Kc (a.put o.dst undef) W :=
 event_step hw hrun (h _ (yL W _) (below_alloc (zS _ _) _))
theorem skip_one {W w1 : World} (hw : Region.wanted o (yielded ops a.tmps) = true) (hrun : (execOp a.eval o).run P W = .ok .skip w1) (h : Kc (a.put o.dst undef) w1) : if Region.wanted o (yielded ops a.tmps) = true then Oper.wp P o a W Kc Q else Kc (a.put o.dst undef) W:=by
 rw [if_pos hw];unfold Oper.wp;rw [hrun];exact h
end
end Go.Proofs.YtiminjibcafkaaaGreatDoor.X
end
section
section
namespace Go.Proofs.YtiminjibcafkaaaGreatDoor.X
open RowKit YtiminjibcafkaaaGreatDoorW.PrintWords YtiminjibcafkaaaGreatDoorW.PrintLast YtiminjibcafkaaaGreatDoorW.PrintMore
theorem at0_Run {w : World} {A : Option Addr} {n : Nat} {x : S67} (h : Kd.C k67 w A n [x]) (h1 : 0 < n) : ∃ ad,A = some ad ∧ w.cell? ad = some (.int .u8 x.f0) ∧ w.cell? ⟨ad.block,ad.off + 1,none⟩ = some (.int .u32 x.f1) ∧ w.cell? ⟨ad.block,ad.off + 2,none⟩ = some (.int .u32 x.f2):=by
 obtain ⟨ad,e,p0,p1,p2⟩:=at_T67 h 0 (by decide) (by omega);exact ⟨ad,e,p0,p1,p2⟩
theorem one_Run {w : World} {g : Nat} {t : TypeId} (x : S67) (h : w.heap[g]? = some (.cells #[.int .u8 x.f0,.int .u32 x.f1,.int .u32 x.f2] t (0,0))) : Kd.C k67 w (some ⟨g,0,none⟩) 1 [x]:=by
 refine ⟨rfl,by decide,fun _=>⟨_,rfl,fun j p hj=>?_⟩⟩
 match j,hj with
 | 0,hj =>
  obtain rfl : x = p:=zH hj;refine ⟨_,rfl,k67_mk w x,fun i u hi=>?_⟩
  match i,hi with
  | 0,hi=>exact (zI h 0).trans hi
  | 1,hi=>exact (zI h 1).trans hi
  | 2,hi=>exact (zI h 2).trans hi
theorem one_Entry {w : World} {g : Nat} {t : TypeId} (x : S62) (h : w.heap[g]? = some (.cells #[.int .u8 x.f0,.int .u8 x.f1.f0,.int .u32 x.f1.f1,.int .u32 x.f1.f2,.int .i64 x.f2,.int .u8 x.f3,.int .u32 x.f4] t (0,0))) : Kd.C k62 w (some ⟨g,0,none⟩) 1 [x]:=by
 refine ⟨rfl,by decide,fun _=>⟨_,rfl,fun j p hj=>?_⟩⟩
 match j,hj with
 | 0,hj =>
  obtain rfl : x = p:=zH hj;refine ⟨_,rfl,k62_mk w x,fun i u hi=>?_⟩
  match i,hi with
  | 0,hi=>exact (zI h 0).trans hi
  | 1,hi=>exact (zI h 1).trans hi
  | 2,hi=>exact (zI h 2).trans hi
  | 3,hi=>exact (zI h 3).trans hi
  | 4,hi=>exact (zI h 4).trans hi
  | 5,hi=>exact (zI h 5).trans hi
  | 6,hi=>exact (zI h 6).trans hi
set_option maxRecDepth 100000 in
set_option maxHeartbeats 8000000 in
theorem awake07_calls (w : World) (hg : GT w) : Calls Tryz.prog 6 #[] w fun e w'=>e = .returned (.bool true) ∧ Below w.heap.size w w':=by
 have huR:=Tryz.underlying28;have huN:=Tryz.underlying30;have huS:=Tryz.underlying26;have huE:=Tryz.underlying62;have hu35:=Tryz.underlying35;have hu4:=Tryz.underlying4;have huc:=Tryz.underlying70;have eN:=errW_none;have eS:=errW_some;go_enter Tryz.func6,Tryz.ntmps6;go_wp2_with fail;refine (Begin_ok 20 2 255 0 0 [] [] false 0 0 0 0 [] 0 none none none 0 0 0 1 w (On.nil (S:=fun _=>True)).row (zM _) (On.nil (S:=fun _=>True)).row (zM _) (On.nil (S:=fun _=>True)).row (zM _) (fun _=>True) (fun _ _=>trivial) (Nat.zero_le _) (by kernel_rfl) (by decide) (by decide) (by decide)).mono ?_;rintro ev w1 ⟨T,c,T1,c1,T2,c2,rfl,o1,o2,o3,hx⟩;have HB1:=zA hx;clear o1 o2 o3 hx;go_wp2_with fail;generalize hW : World.alloc (World.alloc (World.alloc (World.alloc (World.alloc (World.alloc w1 _) _) _) _) _) _ = w2;have Ba2:=zA (al6_0 hW);have Bp2:=zA (al6_1 hW);have Bx2:=zA (al6_2 hW);have Bxs2:=zA (al6_3 hW);have Bus2:=zA (al6_4 hW);have Bb2:=zA (al6_5 hW);have HB2:=zA (zG HB1.out (al6B hW));clear hW HB1;have hA : tgtAcc 60 2 255 0 0 [] [] true 1 1 0 0 [] 1 2 1 2 1 0 0 [] 0 [⟨3,⟨1,2,1⟩,1,1,9⟩] 4 true [⟨1,1,2⟩] = some (.done [⟨1,1,2⟩] [⟨3,⟨1,2,1⟩,1,1,9⟩]):=by kernel_rfl
 refine (tAcc_calls 60 2 255 0 0 [] [] true 1 1 0 0 [] 1 none none none 0 0 0 2 1 2 1 0 0 [] 0 [⟨3,⟨1,2,1⟩,1,1,9⟩] 4 true [⟨1,1,2⟩] none (some ⟨w1.heap.size + 1 + 1 + 1,0,none⟩) (some ⟨w1.heap.size + 1 + 1 + 1 + 1,0,none⟩) 0 1 1 w2 (fun _=>True) On.nil On.nil On.nil On.nil (⟨zM _,one_Entry ⟨3,⟨1,2,1⟩,1,1,9⟩ Bxs2.out,fun _ _ _=>trivial⟩ : On k62 w2 (fun _=>True) (some ⟨w1.heap.size + 1 + 1 + 1,0,none⟩) 1 [⟨3,⟨1,2,1⟩,1,1,9⟩]) (⟨zM _,one_Run ⟨1,1,2⟩ Bus2.out,fun _ _ _=>trivial⟩ : On k67 w2 (fun _=>True) (some ⟨w1.heap.size + 1 + 1 + 1 + 1,0,none⟩) 1 [⟨1,1,2⟩]) (fun _ _=>trivial) (by decide) _ hA).mono ?_;clear hA;rintro ev w3 ⟨TU,eU,T5,e5,TO,eO,K6,k6,K8,k8,KE,ke,rfl,qu,q5,qo,q6,q8,qe,hx⟩;clear q6 q8 qe;have Ba3:=zA (zC Ba2.out hx);have Bp3:=zA (zC Bp2.out hx);have Bx3:=zA (zC Bx2.out hx);have Bxs3:=zA (zC Bxs2.out hx);have Bus3:=zA (zC Bus2.out hx);have Bb3:=zA (zC Bb2.out hx);have HB3:=zA (zG HB2.out hx);have Oku3:=zA qu;have Ohe3:=zA q5;have Ooo3:=zA qo;clear hx qu q5 qo HB2 Ba2 Bp2 Bx2 Bxs2 Bus2 Bb2;have b4q_:=cells12 (yE (yE (Bb3.out) (.cells #[.int .u8 2,.int .u8 255,.int .u32 0,.int .u32 0,.slice TU 1 eU,.slice T5 1 e5,.bool false,.int .u32 0,.int .u8 0,.int .u8 0,.int .u32 0,.slice TO 0 eO,.int .u32 1] 28)) (.cells #[.int .i64 0,.int .u8 0,.int .u8 0,.int .u32 0,.int .u8 0,.int .u8 0,.slice K6 0 k6,.int .u32 0,.slice K8 0 k8,.int .u8 0,.bool false,.slice KE 0 ke] 30));have p4q_:=cells12 (yE (yE (Bp3.out) (.cells #[.int .u8 2,.int .u8 255,.int .u32 0,.int .u32 0,.slice TU 1 eU,.slice T5 1 e5,.bool false,.int .u32 0,.int .u8 0,.int .u8 0,.int .u32 0,.slice TO 0 eO,.int .u32 1] 28)) (.cells #[.int .i64 0,.int .u8 0,.int .u8 0,.int .u32 0,.int .u8 0,.int .u8 0,.slice K6 0 k6,.int .u32 0,.slice K8 0 k8,.int .u8 0,.bool false,.slice KE 0 ke] 30));go_wp2_with fail;clear b4q_ p4q_;generalize hW : World.alloc (World.alloc w3 _) _ = w4;have Ba4:=zA (zC Ba3.out (al2B hW));have Bp4:=zA (zC Bp3.out (al2B hW));have Bx4:=zA (zC Bx3.out (al2B hW));have Bxs4:=zA (zC Bxs3.out (al2B hW));have Bus4:=zA (zC Bus3.out (al2B hW));have Bb4:=zA (zC Bb3.out (al2B hW));have Bs4:=zA (al2_0 hW);have Bq4:=zA (al2_1 hW);have HB4:=zA (zG HB3.out (al2B hW));have Oku4:=zA (Oku3.out.below (al2B hW));have Ohe4:=zA (Ohe3.out.below (al2B hW));have Ooo4:=zA (Ooo3.out.below (al2B hW));clear hW HB3 Ba3 Bp3 Bx3 Bxs3 Bus3 Bb3 Oku3 Ohe3 Ooo3;have hA : tgtAcc 60 2 255 0 0 [⟨1,1,2⟩] [⟨3,⟨1,2,1⟩,1,1,9⟩] false 0 0 0 0 [] 1 2 1 2 1 0 0 [] 0 [⟨3,⟨1,2,1⟩,1,1,9⟩] 4 true [⟨1,1,2⟩] = some (.zero 4):=by kernel_rfl
 refine (tAcc_calls 60 2 255 0 0 [⟨1,1,2⟩] [⟨3,⟨1,2,1⟩,1,1,9⟩] false 0 0 0 0 [] 1 TU T5 TO eU e5 eO 2 1 2 1 0 0 [] 0 [⟨3,⟨1,2,1⟩,1,1,9⟩] 4 true [⟨1,1,2⟩] none (some ⟨w1.heap.size + 1 + 1 + 1,0,none⟩) (some ⟨w1.heap.size + 1 + 1 + 1 + 1,0,none⟩) 0 1 1 w4 (fun _=>True) Oku4.out Ohe4.out Ooo4.out On.nil (⟨zM _,one_Entry ⟨3,⟨1,2,1⟩,1,1,9⟩ Bxs4.out,fun _ _ _=>trivial⟩ : On k62 w4 (fun _=>True) (some ⟨w1.heap.size + 1 + 1 + 1,0,none⟩) 1 [⟨3,⟨1,2,1⟩,1,1,9⟩]) (⟨zM _,one_Run ⟨1,1,2⟩ Bus4.out,fun _ _ _=>trivial⟩ : On k67 w4 (fun _=>True) (some ⟨w1.heap.size + 1 + 1 + 1 + 1,0,none⟩) 1 [⟨1,1,2⟩]) (fun _ _=>trivial) (by decide) _ hA).mono ?_;clear hA;rintro ev w5 ⟨Z4,z4,Z5,z5,ZO,zo,J6,j6,J8,j8,JE,je,rfl,g4,g5,g11,g6,g8,ge,hx⟩;have Ba5:=zA (zC Ba4.out hx);have Bp5:=zA (zC Bp4.out hx);have Bx5:=zA (zC Bx4.out hx);have Bxs5:=zA (zC Bxs4.out hx);have Bus5:=zA (zC Bus4.out hx);have Bb5:=zA (zC Bb4.out hx);have Bs5:=zA (zC Bs4.out hx);have Bq5:=zA (zC Bq4.out hx);have HB5:=zA (zG HB4.out hx);have Oku5:=zA (Oku4.out.below hx);have Ohe5:=zA (Ohe4.out.below hx);have Ooo5:=zA (Ooo4.out.below hx);clear hx HB4 Ba4 Bp4 Bx4 Bxs4 Bus4 Bb4 Bs4 Bq4 Oku4 Ohe4 Ooo4;clear g4 g5 g11 g6 g8 ge;have s6q_:=cells13 (yE (yE (Bs5.out) (.cells #[.int .u8 0,.int .u8 0,.int .u32 0,.int .u32 0,.slice Z4 0 z4,.slice Z5 0 z5,.bool false,.int .u32 0,.int .u8 0,.int .u8 0,.int .u32 0,.slice ZO 0 zo,.int .u32 0] 28)) (.cells #[.int .i64 0,.int .u8 0,.int .u8 0,.int .u32 0,.int .u8 0,.int .u8 0,.slice J6 0 j6,.int .u32 0,.slice J8 0 j8,.int .u8 0,.bool false,.slice JE 0 je] 30));go_wp2_with fail;clear s6q_;generalize hW : World.alloc (World.alloc w5 _) _ = w6;have Ba6:=zA (zC Ba5.out (al2B hW));have Bp6:=zA (zC Bp5.out (al2B hW));have Bx6:=zA (zC Bx5.out (al2B hW));have Bxs6:=zA (zC Bxs5.out (al2B hW));have Bus6:=zA (zC Bus5.out (al2B hW));have Bb6:=zA (zC Bb5.out (al2B hW));have Bs6:=zA (zC Bs5.out (al2B hW));have Bq6:=zA (zC Bq5.out (al2B hW));have Bs26:=zA (al2_0 hW);have Bq26:=zA (al2_1 hW);have HB6:=zA (zG HB5.out (al2B hW));have Oku6:=zA (Oku5.out.below (al2B hW));have Ohe6:=zA (Ohe5.out.below (al2B hW));have Ooo6:=zA (Ooo5.out.below (al2B hW));clear hW HB5 Ba5 Bp5 Bx5 Bxs5 Bus5 Bb5 Bs5 Bq5 Oku5 Ohe5 Ooo5;refine (replica_Get.calls 2 255 0 0 _ _ [⟨1,1,2⟩] _ _ [⟨3,⟨1,2,1⟩,1,1,9⟩] false 0 0 0 0 _ _ [] 1 3 9 none _ Oku6.out.row Oku6.out.len Ohe6.out.row Ohe6.out.len Ooo6.out.row Ooo6.out.len (by kernel_rfl)).mono ?_;rintro ev w7 ⟨rfl,hx⟩;have Ba7:=zA (zC Ba6.out hx);have Bp7:=zA (zC Bp6.out hx);have Bx7:=zA (zC Bx6.out hx);have Bxs7:=zA (zC Bxs6.out hx);have Bus7:=zA (zC Bus6.out hx);have Bb7:=zA (zC Bb6.out hx);have Bs7:=zA (zC Bs6.out hx);have Bq7:=zA (zC Bq6.out hx);have Bs27:=zA (zC Bs26.out hx);have Bq27:=zA (zC Bq26.out hx);have HB7:=zA (zG HB6.out hx);have Oku7:=zA (Oku6.out.below hx);have Ohe7:=zA (Ohe6.out.below hx);have Ooo7:=zA (Ooo6.out.below hx);clear hx HB6 Ba6 Bp6 Bx6 Bxs6 Bus6 Bb6 Bs6 Bq6 Bs26 Bq26 Oku6 Ohe6 Ooo6;obtain ⟨ad,hA,y0,y1,y2⟩:=at0_Run Oku7.out.row (by decide);have y2a:=y2.trans (show some (Value.int .u32 _) = some (.int .u32 2) from rfl);clear y0 y1 y2;have HLE:=zA Oku7.out.len;have Gt:=zA (hg.below HB7.out);have hle : (1 : Int) ≤ (eU : Int):=by have:=HLE.out;simp at this;omega
 have p_:=cells12 Bp7.out;have s_:=cells13 Bs7.out;clear Oku7 Ohe7 Ooo7;subst hA;go_wp2_with fail;refine (Code_calls (some 4) w7 Gt.out).mono ?_;rintro ev w8 ⟨rfl,hx⟩;have HB8:=zA (zG HB7.out hx);clear hx;have hcd : codeOf (some 4) = 4:=rfl;go_wp2_with fail;go_ret;exact ⟨rfl,HB8.out⟩
end Go.Proofs.YtiminjibcafkaaaGreatDoor.X
end
end
