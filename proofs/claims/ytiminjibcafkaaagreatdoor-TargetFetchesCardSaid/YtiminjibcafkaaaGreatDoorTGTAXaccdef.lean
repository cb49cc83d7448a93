/- What target.Accept and the document's Accept hand back: one form for both. -/
import Derived.Test.YtiminjibcafkaaaGreatDoorTGTAXhtidingsref05Right
import Derived.Test.YtiminjibcafkaaaGreatDoorTGTAX25
import Derived.Test.YtiminjibcafkaaaGreatDoorTGTAX21
import Derived.Test.YtiminjibcafkaaaGreatDoorTGJ26
import Derived.Test.YtiminjibcafkaaaGreatDoorTGTAXhreplicaRight
import Derived.Test.YtiminjibcafkaaaGreatDoorTGTAJ29
import Derived.Test.YtiminjibcafkaaaGreatDoorTGTAJ6
import Derived.Test.YtiminjibcafkaaaGreatDoorTGJ21
import Derived.Test.YtiminjibcafkaaaGreatDoorTGTAX18
import Derived.Test.YtiminjibcafkaaaGreatDoorTGTAJ4
import Derived.Test.YtiminjibcafkaaaGreatDoorTGTAX19
import Derived.Test.YtiminjibcafkaaaGreatDoorTGTAJ5
set_option linter.unusedSimpArgs false
set_option linter.unusedVariables false
namespace Go.Proofs.YtiminjibcafkaaaGreatDoor.X
open RowKit YtiminjibcafkaaaGreatDoorW.PrintWords YtiminjibcafkaaaGreatDoorW.PrintLast YtiminjibcafkaaaGreatDoorW.PrintMore
inductive RRes where
 | zero (c : Int)
 | off
 | done (u : List S67) (hd : List S62)
 | more (kn : List S67) (hd : List S62)
def OutR (S : Nat → Prop) (w : World) (v0 v1 v2 v3 : Int) (kn : List S67) (hd : List S62) (v6 : Bool) (v7 v8 v9 v10 : Int) (of : List S67) (v12 : Int) (n0 n1 n2 n3 n4 n5 : Int) (nk : List S67) (mo : Bool) (E : Value) (e : Ending) (w' : World) : Prop :=
 ∃ T4 e4 T5 e5 T11 e11 K6 k6 K8 k8 K11 k11,e = .returned (.tuple #[.agg #[.int .u8 v0,.int .u8 v1,.int .u32 v2,.int .u32 v3,.slice T4 kn.length e4,.slice T5 hd.length e5,.bool v6,.int .u32 v7,.int .u8 v8,.int .u8 v9,.int .u32 v10,.slice T11 of.length e11,.int .u32 v12],.agg #[.int .i64 n0,.int .u8 n1,.int .u8 n2,.int .u32 n3,.int .u8 n4,.int .u8 n5,.slice K6 nk.length k6,.int .u32 0,.slice K8 0 k8,.int .u8 0,.bool false,.slice K11 0 k11],.bool mo,E]) ∧
  On k67 w' S T4 e4 kn ∧ On k62 w' S T5 e5 hd ∧ On k67 w' S T11 e11 of ∧ On k67 w' S K6 k6 nk ∧ On k62 w' S K8 k8 [] ∧ On k67 w' S K11 k11 [] ∧ Below w.heap.size w w'
def RPost (E : Option Int → Value) (S : Nat → Prop) (w : World) (a0 a1 a2 a3 : Int) (l4 : List S67) (l5 : List S62) (a6 : Bool) (a7 a8 a9 a10 : Int) (l11 : List S67) (a12 : Int) (b4 b7 b9 : Int) (m11 : List S67) : RRes → Ending → World → Prop
 | .zero c=>OutR S w 0 0 0 0 [] [] false 0 0 0 0 [] 0 0 0 0 0 0 0 [] false (E (some c))
 | .off=>OutR S w a0 a1 a2 a3 l4 l5 false 0 0 0 0 [] a12 0 0 0 0 0 0 [] false (E (some 10))
 | .done u hd=>OutR S w a0 a1 a2 a3 u hd false 0 0 0 0 [] a12 0 0 0 0 0 0 [] false (E none)
 | .more kn hd=>OutR S w a0 a1 a2 a3 kn hd a6 a7 a8 b9 (if b4 = 0 then b7 else a10) (if b4 = 0 then m11 else l11) a12 1 a0 a8 a7 b9 a1 kn true (E none)
theorem OutR.zero {S : Nat → Prop} {w w' : World} {E : Value} {e : Ending} (h : e = .returned (.tuple #[.agg #[.int .u8 0,.int .u8 0,.int .u32 0,.int .u32 0,.slice none 0 0,.slice none 0 0,.bool false,.int .u32 0,.int .u8 0,.int .u8 0,.int .u32 0,.slice none 0 0,.int .u32 0],.agg #[.int .i64 0,.int .u8 0,.int .u8 0,.int .u32 0,.int .u8 0,.int .u8 0,.slice none 0 0,.int .u32 0,.slice none 0 0,.int .u8 0,.bool false,.slice none 0 0],.bool false,E])) (hB : Below w.heap.size w w') :
 OutR S w 0 0 0 0 [] [] false 0 0 0 0 [] 0 0 0 0 0 0 0 [] false E e w':=⟨none,0,none,0,none,0,none,0,none,0,none,0,h,On.nil,On.nil,On.nil,On.nil,On.nil,On.nil,hB⟩
theorem OutR.off {S : Nat → Prop} {w w' : World} {E : Value} {e : Ending} {v0 v1 v2 v3 v12 : Int} {kn : List S67} {hd : List S62} {T4 T5 : Option Addr} {e4 e5 : Nat} (h : e = .returned (.tuple #[.agg #[.int .u8 v0,.int .u8 v1,.int .u32 v2,.int .u32 v3,.slice T4 kn.length e4,.slice T5 hd.length e5,.bool false,.int .u32 0,.int .u8 0,.int .u8 0,.int .u32 0,.slice none 0 0,.int .u32 v12],.agg #[.int .i64 0,.int .u8 0,.int .u8 0,.int .u32 0,.int .u8 0,.int .u8 0,.slice none 0 0,.int .u32 0,.slice none 0 0,.int .u8 0,.bool false,.slice none 0 0],.bool false,E])) (h4 : On k67 w' S T4 e4 kn) (h5 : On k62 w' S T5 e5 hd) (hB : Below w.heap.size w w') :
 OutR S w v0 v1 v2 v3 kn hd false 0 0 0 0 [] v12 0 0 0 0 0 0 [] false E e w':=⟨T4,e4,T5,e5,none,0,none,0,none,0,none,0,h,h4,h5,On.nil,On.nil,On.nil,On.nil,hB⟩
def notWaited (a0 : Int) (a6 : Bool) (a7 a8 a9 b0 b1 b2 b3 b4 : Int) : Bool:=b0 != 2 || b2 != a0 || !a6 || b1 != a8 || b3 != a7 || b4 != a9
def rput (k : Nat) (wn : Bool) (kn : List S67) (hd : List S62) (y : S62) : Option (Int ⊕ (List S67 × List S62)) :=
 (tidingsref02_Take.f k hd y.f0 y.f1.f0 y.f1.f1 y.f1.f2 y.f2 y.f3 y.f4).bind fun h=>if wn = true then some (.inr (kn,h)) else
 (tidingsref01_Add.f k kn y.f1.f0 y.f1.f1).bind fun p=>if 0 < p.2 then some (.inl p.2) else some (.inr (p.1,h))
def rwant (k : Nat) (a1 : Int) (x : S62) : Option Bool:=if x.f2 = 2 then tidingsref02_In.f k x.f0 x.f1.f0 x.f1.f1 x.f1.f2 x.f2 x.f3 x.f4 a1 else some false
def rfd (k : Nat) (a1 : Int) (x : S62) : Option Bool:=if x.f2 = 1 then (tidingsref02_In.f k x.f0 x.f1.f0 x.f1.f1 x.f1.f2 x.f2 x.f3 x.f4 a1).bind fun b=>some (!b) else some false
def rfade (fd : Bool) (x : S62) : Option S62 :=
 if fd = true then (tidingsref02_Fade.f x.f0 x.f1.f0 x.f1.f1 x.f1.f2 x.f2 x.f3 x.f4).bind fun t=>some ⟨t.1,⟨t.2.1,t.2.2.1,t.2.2.2.1⟩,t.2.2.2.2.1,t.2.2.2.2.2.1,t.2.2.2.2.2.2⟩ else some x
def rstep (k : Nat) (a1 : Int) (kn : List S67) (hd : List S62) (x : S62) : Option (Int ⊕ (List S67 × List S62)) :=
 (rwant k a1 x).bind fun wn=>(rfd k a1 x).bind fun fd=>(rfade fd x).bind fun y=>rput k wn kn hd y
def rfold (k : Nat) (a1 : Int) (m8 : List S62) : Nat → List S67 → List S62 → Nat → Option (Int ⊕ (List S67 × List S62))
 | 0,kn,hd,_=>some (.inr (kn,hd))
 | d + 1,kn,hd,i=>(rstep k a1 kn hd (m8.getD i z62)).bind fun r=>match r with
  | .inl c=>some (.inl c)
  | .inr s=>rfold k a1 m8 d s.1 s.2 (i + 1)
def tput (k : Nat) (kn : List S67) (hd : List S62) (y : S62) (g : Bool) : Option (Int ⊕ (List S67 × List S62)) :=
 (item_Take.f k hd y.f0 y.f1.f0 y.f1.f1 y.f1.f2 y.f2 y.f3 y.f4).bind fun h=>match h.2 with
  | some _=>none
  | none=>if g = true then some (.inr (kn,h.1)) else (know_Add.f k kn y.f1.f0 y.f1.f1).bind fun p=>match p.2 with
   | none=>some (.inr (p.1,h.1))
   | some c=>some (.inl c)
def tstep (k : Nat) (a1 : Int) (kn : List S67) (hd : List S62) (x : S62) : Option (Int ⊕ (List S67 × List S62)) :=
 (item_In.f x.f0 x.f1.f0 x.f1.f1 x.f1.f2 x.f2 x.f3 x.f4 a1).bind fun b=>if b = true then tput k kn hd x (decide (x.f2 = 2)) else
  (item_Fade.f x.f0 x.f1.f0 x.f1.f1 x.f1.f2 x.f2 x.f3 x.f4).bind fun t=>tput k kn hd ⟨t.1,⟨t.2.1,t.2.2.1,t.2.2.2.1⟩,t.2.2.2.2.1,t.2.2.2.2.2.1,t.2.2.2.2.2.2⟩ false
def tfold (k : Nat) (a1 : Int) (m8 : List S62) : Nat → List S67 → List S62 → Nat → Option (Int ⊕ (List S67 × List S62))
 | 0,kn,hd,_=>some (.inr (kn,hd))
 | d + 1,kn,hd,i=>(tstep k a1 kn hd (m8.getD i z62)).bind fun r=>match r with
  | .inl c=>some (.inl c)
  | .inr s=>tfold k a1 m8 d s.1 s.2 (i + 1)
def tend (k : Nat) (b4 : Int) (b10 : Bool) (l11 m11 : List S67) (kn : List S67) (hd : List S62) : Option RRes :=
 if b10 = true then (know_Union.f k kn (if b4 = 0 then m11 else l11)).bind fun p=>match p.2 with
  | none=>some (.done p.1 hd)
  | some c=>some (.zero c)
 else if kn.length ≤ 400000 then some (.more kn hd) else none
def ttail (k : Nat) (b4 : Int) (b10 : Bool) (l11 m11 : List S67) (r : Int ⊕ (List S67 × List S62)) : Option RRes :=
 match r with
 | .inl c=>some (.zero c)
 | .inr s=>tend k b4 b10 l11 m11 s.1 s.2
def tgtGate (k : Nat) (a0 a1 a2 a3 : Int) (l4 : List S67) (l5 : List S62) (a6 : Bool) (a7 a8 a9 a10 : Int) (l11 : List S67) (a12 : Int) (b0 b1 b2 b3 b4 b5 : Int) (m6 : List S67) (b7 : Int) (m8 : List S62) (b9 : Int) (b10 : Bool) (m11 : List S67) : Option (Option RRes) :=
 (replica_Right.f k a0 a1 a2 a3 l4 l5 a6 a7 a8 a9 a10 l11 a12).bind fun q=>if q = false then some (some (.zero 9)) else
 (note_Right.f k b0 b1 b2 b3 b4 b5 m6 b7 m8 b9 b10 m11).bind fun q=>if q = false then some (some (.zero 3)) else
 (target_waited.f a0 a1 a2 a3 l4 l5 a6 a7 a8 a9 a10 l11 a12 b0 b1 b2 b3 b4 b5 m6 b7 m8 b9 b10 m11).bind fun q=>if q = false then some (some (.zero 4)) else
 (target_unmade.f a0 a1 a2 a3 l4 l5 a6 a7 a8 a9 a10 l11 a12 b0 b1 b2 b3 b4 b5 m6 b7 m8 b9 b10 m11).bind fun q=>if q = true then some (some (.zero 9)) else
 (target_twins.f a0 a1 a2 a3 l4 l5 a6 a7 a8 a9 a10 l11 a12 b0 b1 b2 b3 b4 b5 m6 b7 m8 b9 b10 m11).bind fun q=>if q = true then some (some (.zero 9)) else
 if (decide (0 < b4) && (b7 != a10)) = true then some (some .off) else some none
def tgtAcc (k : Nat) (a0 a1 a2 a3 : Int) (l4 : List S67) (l5 : List S62) (a6 : Bool) (a7 a8 a9 a10 : Int) (l11 : List S67) (a12 : Int) (b0 b1 b2 b3 b4 b5 : Int) (m6 : List S67) (b7 : Int) (m8 : List S62) (b9 : Int) (b10 : Bool) (m11 : List S67) : Option RRes :=
 (tgtGate k a0 a1 a2 a3 l4 l5 a6 a7 a8 a9 a10 l11 a12 b0 b1 b2 b3 b4 b5 m6 b7 m8 b9 b10 m11).bind fun g=>match g with
  | some r=>some r
  | none=>(tfold k a1 m8 m8.length l4 l5 0).bind (ttail k b4 b10 l11 m11)
end Go.Proofs.YtiminjibcafkaaaGreatDoor.X
