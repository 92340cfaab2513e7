/- For every two lists of uploads and every upload, the law PartsBegins returns true and leaves its arguments as they read before. -/
import Derived.Test.YtgpmkbmobdbdoaaGreatDoorLy4
import Derived.Test.YtgpmkbmobdbdoaaGreatDoorProg
import Derived.Below
import Derived.Deep.Draws
import Derived.Deep.AppendLies
import Derived.Maps.AppendAt
import Derived.OwnWalk
import Derived.Laws.BytesArg
import Derived.Laws.MakeOwn
import Derived.Laws.OwnMore
import Derived.Deep.OwnRows
import Derived.Tactics
import Derived.Lib.ConvBytes
import Derived.Laws.Slices
import Derived.WalkKit
import Derived.KernelRfl
import Derived.RowKit3
import Derived.Deep.LoopGhost
import Derived.Deep.QuietTactic
import Derived.BigQuiet
import Derived.WideLaws
import Derived.Deep.DeepCutAuto
import Derived.Deep.CutBlock
import Derived.Deep.RegionHeld3
import Derived.Laws.Rows
import Derived.Lib.AppendStr
import Derived.ArgAppend
import Derived.Laws.IdiomCopy
import Derived.OrdersHeld
import Derived.Laws.BitsLemmas
import Derived.RowKit
import Derived.Laws.StructEq
import Derived.Lib.Hide
import Derived.Outline
import Derived.Tactics2
import Derived.Defers
import Derived.Laws.Pointers
import Derived.Laws.LoneSync
import Derived.RegionTactic
import Derived.RegionCalls
import Derived.ChangeAlike
import Derived.Lib.Builder
import Derived.Shelf.Strings.Builder1
import Derived.Shelf.Strings.BuilderF
import Derived.Shelf.Strconv.Itoa0
import Derived.Shelf.Strconv.Itoa1
import Derived.Shelf.LaysM
import Derived.Shelf.Strconv.Itoa2
import Derived.Shelf.Strconv.Itoa3
import Derived.Laws.CopyOwn
import Derived.Lib.Overlaps
import Derived.Deep.RegionLaw
import Derived.WalkSpells
import Derived.Lib.BufferMore
import Derived.StillTailTactics
import Derived.Deep.RegionWith
import Derived.Deep.DeepAppendRoom
import Derived.ProofKit
import Derived.Deep.Strs
import Derived.Test.YtgpmkbmobdbdoaaGreatDoorRows
import Derived.LaidMore
import Derived.OpenShut
import Derived.Stop.Joined
import Derived.Test.YtgpmkbmobdbdoaaGreatDoorTie
import Derived.Test.YtgpmkbmobdbdoaaGreatDoorCards
import Derived.ShutString
import Derived.ChangeOld
import Derived.SizedLaws
import Derived.SevenTiedAt
import Derived.Lib.SmallJoins
-- WWords
-- PRINTED WORDS (module Derived/Print/Words.lean): go-wishes' parts 1 to 38 and go-gate-2's additions: AI agents of Go's test side, Mon Nov 16 2026; no person has read them. Plain theorems and definitions: no macro, no elab, no axiom.
set_option linter.unusedVariables false
set_option linter.unusedSimpArgs false
namespace Go.Proofs.YtgpmkbmobdbdoaaGreatDoorW.PrintWords
open Go.RowKit

/-! ### 1. Values and lists -/
/-! ### 2. The world -/
/-! ### 3. A slice of whole numbers that is read; nil, empty and other slices alike -/
/-! ### 4. A row of the call's own -/
/-! ### 5. append(v, x): behind 'at_builtin'; the goal's world is 'W.alloc' of the variadic's box -/
section
variable {P : Program} {ops : Array Oper} {rest : List Oper} {o : Oper} {a : Act} {Q : Exit → Act → World → Prop}

end

/-! ### 6. make([]T, n), n an Int; a literal -/
section
variable {P : Program}
end
/-! ### 7. v[i] read and v[i] = x, v a row of the call's own: 'obtain ⟨g, cap, rfl, hgb, hgl⟩ := HO.out.form (by omega)' first -/
/-! ### 8. append(v, ys...): ys a slice that is read, nil let in; behind 'at_builtin' -/
section
variable {P : Program} {ops : Array Oper} {rest : List Oper} {o : Oper} {a : Act} {Q : Exit → Act → World → Prop}
end

/-! ### 9. []byte(s): a slice that is read (its row bears a conversion's mark: no row of one's own); cuts of a slice that is read -/
/-! ### 10. Rounds: more rounds give the same answer; what ends gives a number of rounds -/
/-! ### 11. Rows of elements of several cells (structs): read, made. R: what an element's cells say ('RepItem w': printed for each type) -/
section
variable {P : Program} {ops : Array Oper} {rest : List Oper} {o : Oper} {a : Act} {Q : Exit → Act → World → Prop}
end

/-! ### 12. A block of one's own that is a state: its cells, what a store leaves -/
/-! ### 13. Two states at once: what a call on the state at block g (its row before: 'row') has turned -/
/-! ### 10b. From some number of rounds on -/
/-! ### 14. append as_ one step of a region that draws its order: for 'go_region_law' (and a region walked by hand) -/
section
variable {P : Program} {ops : Array Oper} {o : Oper} {a : Act} {Q : Exit → Act → World → Prop} {K : Act → World → Prop}
end
/-! ### 15. A row's base may be lowered -/
/-! ### 16. Parts 3 to 9 for ANY element of one cell: 'enc' (Value.int k, Value.string, Value.bool), a default 'd' -/
section
variable {α : Type} {enc : α → Value} {d : α}
end
section
variable {α : Type} {P : Program} {ops : Array Oper} {rest : List Oper} {o : Oper} {a : Act} {Q : Exit → Act → World → Prop}
end

/-! ### 17. Rows of one element type held at once: no two share a block -/
/-! ### 18. A block behind a new one; behind a draw -/
/-! ### 19. Results that lie in memory beside others -/
section
variable {P : Program}
end
/-! ### 20. Rows of elements of any kind: R is what an element's cells say -/
section
variable {α : Type} {R R' : α → List Value → Prop} {e : TypeId} {size : Nat} {w w1 : World} {base : Nat} {v : Value} {ps : List α}
end
section
variable {P : Program} {ops : Array Oper} {rest : List Oper} {o : Oper} {a : Act} {Q : Exit → Act → World → Prop} {α : Type} {R : α → List Value → Prop}
end
section
variable {P : Program} {ops : Array Oper} {o : Oper} {a : Act} {Q : Exit → Act → World → Prop} {K : Act → World → Prop} {α : Type} {R : α → List Value → Prop}
end
/-! ### 21. Cuts of a slice that came in, lengths spelled as_ the lists' -/
section
variable {α : Type} {P : Program}
end

/-! ### 22. append([]byte, s...), s a string; behind 'at_builtin'. (No word on where the new row lies: two rows of bytes at once don't go by it.) -/
section
variable {P : Program} {ops : Array Oper} {rest : List Oper} {o : Oper} {a : Act} {Q : Exit → Act → World → Prop}
end
/-! ### 23. KINDS: what a value's cells say, read (K) and made (M), kind by kind; every mover proved once -/
namespace Kd
section
variable {α : Type} {d : Kd α} {e : Nat} {w w1 : World} {base : Nat} {ok ok' : Nat → Prop} {v : Value} {xs : List α}
end

/-! #### the kinds -/
/-! #### an element of a row that is read; an element appended -/
section
variable {P : Program} {ops : Array Oper} {rest : List Oper} {o : Oper} {a : Act} {Q : Exit → Act → World → Prop} {α : Type}
end
section
variable {P : Program} {ops : Array Oper} {o : Oper} {a : Act} {Q : Exit → Act → World → Prop} {Kc : Act → World → Prop} {α : Type}
end
end Kd
/-! ### 24. Kinds nested in themselves -/
namespace Kd
section
variable {α : Type} {F : Kd α → Kd α} {sz : Nat} {E : List Nat} {hs : ∀ n, (upto F sz E n).sz = sz} {hE : ∀ n q, q ∈ (upto F sz E n).E → q ∈ E}
end
end Kd
/-! ### 25. What is held while another row is written: 'ok' says that its rows are none of that row's block -/
namespace Kd
end Kd
/-! ### 26. Words for a printer that takes every slice by its kind -/
namespace Kd
section
variable {α β : Type} {d : Kd α} {d' : Kd β} {e e' : Nat} {w w1 W : World} {base b b' : Nat} {ok ok' okv oku : Nat → Prop} {v u : Value} {xs : List α} {ys : List β}
theorem R_reads' {A : Option Addr} {n c : Nat} (h : d.R e w base ok (.slice A n c) xs) : n = xs.length ∧ n ≤ c ∧ d.C w A xs.length xs := by
  obtain ⟨A', c', he, hl, hr⟩ := R_reads h
  injection he with h1 h2 h3
  subst h1
  exact ⟨h2, by omega, hr⟩
end
/-! #### scalars -/
section
variable {w W : World} {A : Option Addr} {n : Nat}
variable {α : Type} {enc : α → Value} {h1 : ∀ x, (enc x).oneCell' = true} {e base g cap : Nat} {ok : Nat → Prop} {xs : List α}
end

/-! #### events: a letter for what make and a literal leave -/
section
variable {P : Program} {ops : Array Oper} {rest : List Oper} {o : Oper} {a : Act} {Q : Exit → Act → World → Prop}
variable {α : Type}
end
end Kd
/-! ### 27. Cuts of a row of one's own: 'xs = xs[:n]' stays a row (R_take); 'xs = xs[k:]' is a row that begins inside its block (Kd.Q), append goes on it too -/
section
variable {P : Program}
end
section
variable {w w1 : World} {base n size : Nat} {e : TypeId} {v : Value} {xs : List Value}
end
section
variable {P : Program}
end
/-! ### 28. The kinds' words for cuts: R_take; Q (a row that may begin inside its block) with all of R's movers -/
namespace Kd
section
variable {α : Type} {d : Kd α} {e : Nat} {w w1 W : World} {base : Nat} {ok ok' : Nat → Prop} {v : Value} {xs : List α}
end
section
variable {P : Program} {ops : Array Oper} {rest : List Oper} {o : Oper} {a : Act} {Q' : Exit → Act → World → Prop} {Kc : Act → World → Prop} {α : Type}
end
end Kd
/-! ### 29. Movers that ask of another row no more than they need: for R and for Q -/
namespace Kd
section
variable {α : Type} {d : Kd α} {e e' : Nat} {w w1 W : World} {base : Nat} {ok : Nat → Prop} {u v : Value} {xs : List α}
end
end Kd
/-! ### 30. Elements written: x[i] = T{..}, x[i].f = v, swaps, in a row of elements of any kind -/
namespace Kd
section
variable {α : Type} {d : Kd α} {e base g n cap : Nat} {ok okp : Nat → Prop} {W : World} {xs : List α}
end
end Kd
/-! ### 31. What came in, put into what is made: 'fixed d w0' (read in w0, whatever happens since), 'or_ a b', 'mix' (a slice that came in, or one that is made) -/
namespace Kd
section
variable {α : Type} {F : Kd α → Kd α} {sz : Nat} {E : List Nat} {hs : ∀ n, (upto F sz E n).sz = sz} {hE : ∀ n q, q ∈ (upto F sz E n).E → q ∈ E}
end
end Kd
/-! ### 32. A whole row appended, of elements of any kind; copy onto a row of scalars of one's own -/
namespace Kd
section
variable {P : Program} {ops : Array Oper} {rest : List Oper} {o : Oper} {a : Act} {Q : Exit → Act → World → Prop} {α : Type}
end
end Kd
/-! ### 33. A store into a row of one's own, as_ an event: no go_simp -/
namespace Kd
section
variable {P : Program} {ops : Array Oper} {rest : List Oper} {o : Oper} {a : Act} {Q : Exit → Act → World → Prop} {α : Type}
end
end Kd
/-! ### 34. Cuts that are only read, of any row -/
namespace Kd
section
variable {α : Type} {k : Kd α} {w : World} {A : Option Addr} {xs : List α} {m c : Nat}
end
end Kd
section
variable {P : Program}
end
/-! ### 35. string(b), b read (a cut too) -/
/-! ### 6. What the printer adds -/
namespace Kd
section
variable {α β : Type} {d : Kd α} {d' : Kd β} {e e' base base' n : Nat} {ok ok' : Nat → Prop} {w W w1 W1 : World} {v u : Value} {xs : List α} {ys : List β} {A : Option Addr} {c : Nat}
end
section
variable {α : Type} {enc : α → Value} {h1 : ∀ x, (enc x).oneCell' = true} {w W : World} {A : Option Addr} {n g : Nat} {xs : List α}
end
end Kd
namespace Kd
section
variable {α : Type} {d : Kd α} {e base g : Nat} {ok : Nat → Prop} {w w1 : World} {v : Value} {xs : List α} {o : Obj}
end
end Kd
section
variable {P : Program} {ops : Array Oper} {rest : List Oper} {o : Oper} {a : Act} {Q : Exit → Act → World → Prop}
end
namespace Kd
section
variable {α : Type} {enc : α → Value} {h1 : ∀ x, (enc x).oneCell' = true} {e base g n cap : Nat} {ok : Nat → Prop} {W : World} {xs : List α}
end
end Kd
section
variable {P : Program} {ops : Array Oper} {rest : List Oper} {o : Oper} {a : Act} {Q : Exit → Act → World → Prop}
end
namespace Kd
section
variable {α : Type} {enc : α → Value} {h1 : ∀ x, (enc x).oneCell' = true} {e base g n cap : Nat} {ok : Nat → Prop} {W : World} {xs : List α}
end
end Kd
section
variable {P : Program} {ops : Array Oper} {rest : List Oper} {o : Oper} {a : Act} {Q : Exit → Act → World → Prop} {W : World}
end
/-! ### 36. Events as_ one step of a region that draws (for one_, two_, three_) -/
section
variable {P : Program} {ops : Array Oper} {o : Oper} {a : Act} {Q : Exit → Act → World → Prop} {Kc : Act → World → Prop}
namespace Kd
variable {α : Type}
end Kd
end
/-! ### 37. Results of any shape -/
section
variable {P : Program} {tmps : Array Value} {w : World}
end
/-! ### 38. 'out = append(out[:k], out[k+1:]...)': an element taken out of a row of one's own, in place -/
namespace Kd
section
variable {P : Program} {α : Type}
end
section
variable {P : Program} {ops : Array Oper} {rest : List Oper} {o : Oper} {a : Act} {Q : Exit → Act → World → Prop} {Kc : Act → World → Prop} {α : Type}
end
end Kd

end Go.Proofs.YtgpmkbmobdbdoaaGreatDoorW.PrintWords

-- WFoot
/-! ### 43. What is read beside a state: it stays read whatever the state's calls turn ('∀ W', KeepBut w W' g none → d.C W' A n xs') -/
namespace Go.Proofs.YtgpmkbmobdbdoaaGreatDoorW.PrintWords
open Go.RowKit
namespace Kd
theorem heap_int (k : IntKind) : Heap (Kd.int k) := ⟨fun _ h => h⟩
theorem heap_string : Heap Kd.string := ⟨fun _ h => h⟩
theorem heap_slice {α : Type} {d : Kd α} (e : Nat) (hd : Heap d) : Heap (slice e d) := ⟨by
  rintro w w1 x cs hb ⟨A, c, rfl, hl, hr⟩
  exact ⟨A, c, rfl, hl, hd.C hb hr⟩⟩
theorem heap_pair {α β : Type} {a : Kd α} {b : Kd β} (ha : Heap a) (hb' : Heap b) : Heap (pair a b) := ⟨by
  rintro w w1 x cs hb ⟨c0, c1, rfl, h0, h1⟩
  exact ⟨c0, c1, rfl, ha.K hb h0, hb'.K hb h1⟩⟩
theorem heap_iso {α β : Type} {d : Kd α} (f : β → α) (hd : Heap d) : Heap (iso d f) := ⟨fun hb h => hd.K hb h⟩
section
variable {α : Type} {d : Kd α} {e base g n c : Nat} {ok : Nat → Prop} {w w0 W : World} {A : Option Addr} {xs : List α}
end
end Kd
end Go.Proofs.YtgpmkbmobdbdoaaGreatDoorW.PrintWords

-- WShare
/-! ### 46. Values that share: what is only read, with the blocks it lies in (its footprint 'ok'): Foot, F (a row that is read), FK (an element's cells) -/
namespace Go.Proofs.YtgpmkbmobdbdoaaGreatDoorW.PrintWords
open Go.RowKit
namespace Foot
variable {P Q : World → Prop} {W W1 : World} {ok ok' : Nat → Prop}
end Foot
namespace Kd
section
variable {α β : Type} {d : Kd α} {e base n n' cc g N : Nat} {ok ok' okp S : Nat → Prop} {w w0 w1 W W1 : World} {A A' : Option Addr} {u v v1 : Value} {xs : List α} {xs' : List β} {d' : Kd β} {x : α} {c : List Value}
/-- What came in, a row of the call's own. -/
theorem C_F (hd : Heap d) (h : d.C w A n xs) : F d w (fun k => k < w.heap.size) A n xs := fun _ hW => hd.C (fun k hlt => hW k hlt hlt) h
end
end Kd
end Go.Proofs.YtgpmkbmobdbdoaaGreatDoorW.PrintWords

-- WN
/-! ### 47. N: a row of the call's own whose elements share (what they lead to is only read) -/
namespace Go.Proofs.YtgpmkbmobdbdoaaGreatDoorW.PrintWords
open Go.RowKit
namespace Kd
section
variable {α : Type} {d : Kd α} {e base n cc g : Nat} {ok ok' okp S : Nat → Prop} {w w1 W W1 : World} {A : Option Addr} {u v v1 : Value} {xs : List α} {x : α} {c : List Value}
theorem N_slice (h : N d e w base ok v xs) : ∃ A c, v = .slice A xs.length c := by
  obtain ⟨_, rows, hl, hR, _⟩ := h
  obtain ⟨A, c, he⟩ := R_slice hR
  exact ⟨A, c, by rw [he, hl]⟩
theorem N_reads' {n c : Nat} (h : N d e w base ok (.slice A n c) xs) : n = xs.length ∧ n ≤ c ∧ d.C w A xs.length xs := by
  obtain ⟨_, rows, hl, hR, hf⟩ := h
  obtain ⟨hn, hc, hC⟩ := R_reads' hR
  refine ⟨by omega, hc, ?_⟩
  rw [hl] at hC
  refine ⟨rfl, hC.2.1, fun hp => ?_⟩
  obtain ⟨ad, he, hcell⟩ := hC.2.2 hp
  refine ⟨ad, he, fun j p hj => ?_⟩
  have hjl : j < rows.length := by have := (List.getElem?_eq_some_iff.1 hj).1; omega
  obtain ⟨c', hcl, hK, hcc⟩ := hcell j _ (List.getElem?_eq_getElem hjl)
  have hk := FK_now (hf j p _ hj (List.getElem?_eq_getElem hjl))
  refine ⟨c', hcl, ?_, hcc⟩
  rw [show c' = rows[j] from hK.1]
  exact hk
theorem N_reads (h : N d e w base ok v xs) : ∃ A c, v = .slice A xs.length c ∧ xs.length ≤ c ∧ d.C w A xs.length xs := by
  obtain ⟨A, c, rfl⟩ := N_slice h
  exact ⟨A, c, rfl, (N_reads' h).2⟩
end
end Kd
end Go.Proofs.YtgpmkbmobdbdoaaGreatDoorW.PrintWords

-- P11
namespace Go.Proofs.YtgpmkbmobdbdoaaGreatDoor.Q
open Go.RowKit Go.Proofs.YtgpmkbmobdbdoaaGreatDoorW.PrintWords Go.Proofs.YtgpmkbmobdbdoaaGreatDoorW.PrintLast Go.Proofs.YtgpmkbmobdbdoaaGreatDoorW.PrintMore
set_option linter.unusedVariables false
set_option linter.unusedSimpArgs false

/-! What is fine, and what may be, by members and pairs; a part that is laid, as a split. -/
/-- How many octets the parts have. -/
def sumP (l : List S25) : Nat := (l.map fun p => p.f1.size).sum
def sumU (l : List S40) : Nat := (l.map fun u => sumP u.f2).sum
/-- Behind a Lay that went: what is there. -/
structure Laid (l : List S40) (id : Int) (p : S25) (u v : S40) (next : List S40) : Prop where
  found : findR l id = (u, 0)
  again : findR next id = (v, 0)
  check : checkB next = true
  was : checkB l = true
  there : v.f2.countP (fun q => decide (q.f0 = p.f0) && decide (q.f1 = p.f1)) = 1
  sum : sumU next + (dataOf u.f2 p.f0).size = sumU l + p.f1.size
end Go.Proofs.YtgpmkbmobdbdoaaGreatDoor.Q

-- P12
namespace Go.Proofs.YtgpmkbmobdbdoaaGreatDoor.Q
open Go.RowKit Go.Proofs.YtgpmkbmobdbdoaaGreatDoorW.PrintWords Go.Proofs.YtgpmkbmobdbdoaaGreatDoorW.PrintLast Go.Proofs.YtgpmkbmobdbdoaaGreatDoorW.PrintMore
set_option linter.unusedVariables false
set_option linter.unusedSimpArgs false

/-! How many octets there are, by the program's loops. -/
theorem sumP_cons (p : S25) (l : List S25) : sumP (p :: l) = p.f1.size + sumP l := by unfold sumP; rw [List.map_cons, List.sum_cons]
theorem sumU_cons (u : S40) (l : List S40) : sumU (u :: l) = sumP u.f2 + sumU l := by unfold sumU; rw [List.map_cons, List.sum_cons]
theorem oct_l1 (l : List S40) (n i : Int) (ps : List S25) (hn : (ps.length : Int) ≤ 9223372036854775807) (k : Nat) : ∀ (d j x : Nat), j + d = ps.length → ((x + sumP (ps.drop j) : Nat) : Int) ≤ 9223372036854775807 →
    parts_Octets.l1 (k + d + 1) (x : Int) l n i ps (ps.length : Int) (j : Int) = parts_Octets.l0 k ((x + sumP (ps.drop j) : Nat) : Int) l n (wrap64 (i + 1)) := by
  intro d
  induction d with
  | zero =>
    intro j x hj hx
    rw [show k + 0 + 1 = k + 1 from rfl]
    simp only [parts_Octets.l1]
    rw [if_neg (by omega), List.drop_eq_nil_of_le (by omega)]; rfl
  | succ d ih =>
    intro j x hj hx
    have hj1 : j < ps.length := by omega
    have e1 : rd_T25 ps (j : Int) = ps[j] := by unfold rd_T25; rw [Int.toNat_natCast, List.getD_eq_getElem?_getD, List.getElem?_eq_getElem hj1]; rfl
    rw [List.drop_eq_getElem_cons hj1, sumP_cons] at hx ⊢
    rw [show k + (d + 1) + 1 = (k + d + 1) + 1 from rfl]
    generalize hK : k + d + 1 = K
    simp only [parts_Octets.l1]
    subst hK
    rw [if_pos (by omega), if_pos (by omega), if_pos (by omega), e1, wrap64_of (x := (x : Int) + _) (by omega) (by omega), wrap64_of (x := (j : Int) + 1) (by omega) (by omega)]
    rw [show (x : Int) + (ps[j].f1.size : Int) = ((x + ps[j].f1.size : Nat) : Int) by omega, show (j : Int) + 1 = ((j + 1 : Nat) : Int) by omega, ih (j + 1) (x + ps[j].f1.size) (by omega) (by omega)]
    congr 2; omega
def needO : List S40 → Nat
  | [] => 1
  | u :: us => needO us + u.f2.length + 2
theorem oct_l0 (l : List S40) (hn : (l.length : Int) ≤ 9223372036854775807) (hi : ∀ u ∈ l, (u.f2.length : Int) ≤ 9223372036854775807) : ∀ (us : List S40) (i x : Nat), us = l.drop i → i ≤ l.length → ((x + sumU us : Nat) : Int) ≤ 9223372036854775807 →
    parts_Octets.l0 (needO us) (x : Int) l (l.length : Int) (i : Int) = some ((x + sumU us : Nat) : Int) := by
  intro us
  induction us with
  | nil =>
    intro i x hus hil hx
    have h1 : ¬ i < l.length := by
      intro h
      have := congrArg List.length hus
      rw [List.length_drop] at this; simp at this; omega
    show parts_Octets.l0 (0 + 1) _ _ _ _ = _
    simp only [parts_Octets.l0]
    rw [if_neg (by omega)]; rfl
  | cons u us ih =>
    intro i x hus hil hx
    have hi1 : i < l.length := by
      have := congrArg List.length hus
      rw [List.length_drop] at this; simp at this; omega
    rw [List.drop_eq_getElem_cons hi1] at hus
    injection hus with hu hus
    have e1 : rd_T40 l (i : Int) = u := by unfold rd_T40; rw [Int.toNat_natCast, List.getD_eq_getElem?_getD, List.getElem?_eq_getElem hi1, hu]; rfl
    have hul := hi u (by rw [hu]; exact List.getElem_mem _)
    rw [sumU_cons] at hx ⊢
    show parts_Octets.l0 (needO us + u.f2.length + 1 + 1) _ _ _ _ = _
    generalize hK : needO us + u.f2.length + 1 = K
    simp only [parts_Octets.l0]
    subst hK
    rw [if_pos (by omega), if_pos (by omega), if_pos (by omega), e1]
    have := oct_l1 l (l.length : Int) (i : Int) u.f2 hul (needO us) u.f2.length 0 x (by omega) (by rw [List.drop_zero]; omega)
    rw [List.drop_zero, show ((0 : Nat) : Int) = 0 from rfl] at this
    rw [this, wrap64_of (x := (i : Int) + 1) (by omega) (by omega), show (i : Int) + 1 = ((i + 1 : Nat) : Int) by omega, ih (i + 1) (x + sumP u.f2) hus (by omega) (by omega)]
    congr 2; omega
theorem octets_of (l : List S40) (hn : (l.length : Int) ≤ 9223372036854775807) (hi : ∀ u ∈ l, (u.f2.length : Int) ≤ 9223372036854775807) (hs : ((sumU l : Nat) : Int) ≤ 9223372036854775807) : parts_Octets.f (needO l) l = some (sumU l : Int) := by
  unfold parts_Octets.f
  have := oct_l0 l hn hi l 0 0 (by simp) (Nat.zero_le _) (by rw [Nat.zero_add]; exact hs)
  rw [Nat.zero_add] at this
  exact this
theorem sumP_le (l : List S25) (n m : Nat) (hl : l.length ≤ n) (h : ∀ p ∈ l, p.f1.size ≤ m) : sumP l ≤ n * m := by
  induction l generalizing n with
  | nil => exact Nat.zero_le _
  | cons p l ih =>
    rw [List.length_cons] at hl
    rw [sumP_cons]
    obtain ⟨n, rfl⟩ : ∃ j, n = j + 1 := ⟨n - 1, by omega⟩
    have h1 := h p List.mem_cons_self
    have h2 := ih n (by omega) (fun q hq => h q (List.mem_cons_of_mem _ hq))
    rw [Nat.add_mul, Nat.one_mul]; omega
theorem sumU_le (l : List S40) (n m : Nat) (hl : l.length ≤ n) (h : ∀ u ∈ l, sumP u.f2 ≤ m) : sumU l ≤ n * m := by
  induction l generalizing n with
  | nil => exact Nat.zero_le _
  | cons p l ih =>
    rw [List.length_cons] at hl
    rw [sumU_cons]
    obtain ⟨n, rfl⟩ : ∃ j, n = j + 1 := ⟨n - 1, by omega⟩
    have h1 := h p List.mem_cons_self
    have h2 := ih n (by omega) (fun q hq => h q (List.mem_cons_of_mem _ hq))
    rw [Nat.add_mul, Nat.one_mul]; omega
end Go.Proofs.YtgpmkbmobdbdoaaGreatDoor.Q

-- T31
namespace Go.Proofs.YtgpmkbmobdbdoaaGreatDoor.Q
open Go.RowKit Go.Proofs.YtgpmkbmobdbdoaaGreatDoorW.PrintWords Go.Proofs.YtgpmkbmobdbdoaaGreatDoorW.PrintLast Go.Proofs.YtgpmkbmobdbdoaaGreatDoorW.PrintMore
attribute [local go_sem] max2_int min2_int max_two min_two max_three min_three max_four min_four   -- for this text's walks alone
set_option linter.unusedVariables false
set_option linter.unusedSimpArgs false

theorem begin_calls (A : Option Addr) (c n : Nat) (l : List S40) (id : Int) (key : ByteArray) (w : World) (next : List S40) (e : Int) (h : beginR l id key = (next, e)) (hn : n = l.length) (hr : Hid (Kd.C k40 w A n l)) (hc : n ≤ c) :
    Calls Tryz.prog 18 #[.slice A n c, .int .u64 id, .string key] w fun e' w' => ∃ A c, e' = .returned (.tuple #[.slice A next.length c, .int .i64 e]) ∧ next.length ≤ c ∧ Hid (Kd.C k40 w' A next.length next) ∧ Below w.heap.size w w' := by
  subst hn
  have := begin.walk A c l id key w hr.out hc
  rw [h] at this
  exact this
end Go.Proofs.YtgpmkbmobdbdoaaGreatDoor.Q

-- V8
namespace Go.Proofs.YtgpmkbmobdbdoaaGreatDoor.Q
open Go.RowKit Go.Proofs.YtgpmkbmobdbdoaaGreatDoorW.PrintWords Go.Proofs.YtgpmkbmobdbdoaaGreatDoorW.PrintLast Go.Proofs.YtgpmkbmobdbdoaaGreatDoorW.PrintMore
set_option linter.unusedVariables false
set_option linter.unusedSimpArgs false

/-! The document's Begin and Octets are the program's. -/
theorem begin_l0 (l : List S40) (id : Int) (key : ByteArray) (hl : l.length ≤ 10) : ∀ (d k i : Nat), i + d = l.length → d < k →
    cellarerref08_Begin.l0 k l id key (i : Int) = some (if (l.drop i).any (fun u => decide (id ≤ u.f0)) = true then ([], 9) else if l.length = 10 then ([], 6) else (l ++ [⟨id, key, []⟩], 0)) := by
  intro d
  induction d with
  | zero =>
    intro k i hi hk
    obtain ⟨k, rfl⟩ : ∃ m, k = m + 1 := ⟨k - 1, by omega⟩
    simp only [cellarerref08_Begin.l0]
    rw [if_neg (by omega), List.drop_eq_nil_of_le (by omega), List.any_nil]
    simp only [Bool.false_eq_true, if_false]
    by_cases h : l.length = 10
    · rw [if_pos (by omega), if_pos h]
    · rw [if_neg (by omega), if_neg h]
      simp only [Option.bind_some, List.nil_append, List.length_nil]
      rw [if_pos (by omega), if_pos (by omega)]
  | succ d ih =>
    intro k i hi hk
    obtain ⟨k, rfl⟩ : ∃ m, k = m + 1 := ⟨k - 1, by omega⟩
    have hw : wrap64 ((i : Int) + 1) = ((i + 1 : Nat) : Int) := by rw [wrap64_of (by omega) (by omega)]; omega
    have hlt : i < l.length := by omega
    have e1 : rd_T40 l (i : Int) = l[i] := by unfold rd_T40; rw [Int.toNat_natCast, List.getD_eq_getElem?_getD, List.getElem?_eq_getElem hlt]; rfl
    simp only [cellarerref08_Begin.l0]
    rw [if_pos (by omega), if_pos (by omega), e1, List.drop_eq_getElem_cons hlt, List.any_cons, hw]
    by_cases h : id ≤ l[i].f0
    · rw [if_pos h, decide_eq_true h, Bool.true_or, if_pos rfl]
    · rw [if_neg h, decide_eq_false h, Bool.false_or, ih k (i + 1) (by omega) (by omega)]
theorem last_any (l : List S40) (id : Int) (hp : l.Pairwise (fun a b => a.f0 < b.f0)) : l.any (fun u => decide (id ≤ u.f0)) = lastB l id := by
  unfold lastB
  rcases List.eq_nil_or_concat l with rfl | ⟨m, x, rfl⟩
  · rfl
  · rw [List.concat_eq_append] at hp ⊢
    rw [List.pairwise_append] at hp
    have hx : (m ++ [x]).getD ((m ++ [x]).length - 1) z40 = x := by simp [List.getD_eq_getElem?_getD]
    rw [hx, decide_eq_true (by simp), Bool.true_and, List.any_append, List.any_cons, List.any_nil, Bool.or_false]
    by_cases h : id ≤ x.f0
    · rw [decide_eq_true h, Bool.or_true]
    · rw [decide_eq_false h, Bool.or_false, List.any_eq_false]
      intro u hu
      have := hp.2.2 u hu x List.mem_cons_self
      simp; omega
theorem ref_begin (l : List S40) (id : Int) (key : ByteArray) (hn : (l.length : Int) ≤ 9223372036854775807) (hi : ∀ u ∈ l, (u.f2.length : Int) ≤ 9223372036854775807) :
    ∃ k, cellarerref08_Begin.f k l id key = some (beginR l id key) := by
  obtain ⟨K, hK⟩ := ref_may l hn hi
  refine ⟨K + 62 + l.length, ?_⟩
  unfold cellarerref08_Begin.f beginR
  rw [hK _ (by omega), Option.bind_some]
  have hj : ∀ k, 0 < k → cellarerref08_Begin.j0 k l id key true = some ([], 1) := by
    intro k hk
    obtain ⟨k, rfl⟩ : ∃ m, k = m + 1 := ⟨k - 1, by omega⟩
    simp only [cellarerref08_Begin.j0]
    rw [if_pos trivial]
  cases hc : checkB l
  · rw [if_neg (by simp), hj _ (by omega), if_pos (.inl rfl)]
  · rw [if_pos rfl, ref_number, Option.bind_some]
    cases hm : numB id
    · rw [if_neg (by simp), hj _ (by omega), if_pos (.inr (.inl rfl))]
    · rw [if_pos rfl, ref_key _ _ (by omega), Option.bind_some]
      cases hk : keyB key
      · rw [show (!false) = true from rfl, hj _ (by omega), if_pos (.inr (.inr rfl))]
      · rw [if_neg (by simp), ← last_any l id ((check_iff l).1 hc).2.2]
        rw [show K + 62 + l.length = (K + 61 + l.length) + 1 by omega]
        generalize hQ : K + 61 + l.length = Q
        simp only [cellarerref08_Begin.j0]
        subst hQ
        rw [if_neg (by simp)]
        have := begin_l0 l id key ((check_iff l).1 hc).1 l.length (K + 61 + l.length) 0 (by omega) (by omega)
        rw [List.drop_zero] at this
        exact this
theorem heap40 : Kd.Heap k40 := Kd.heap_iso _ (Kd.heap_pair (Kd.heap_int _) (Kd.heap_pair Kd.heap_string (Kd.heap_slice _ (Kd.heap_iso _ (Kd.heap_pair (Kd.heap_int _) Kd.heap_string)))))
theorem ref_begin_calls (A : Option Addr) (c n : Nat) (l : List S40) (id : Int) (key : ByteArray) (w : World) (next : List S40) (e : Int) (h : beginR l id key = (next, e)) (hn : n = l.length) (hr : Hid (Kd.C k40 w A n l)) (hc : n ≤ c) :
    Calls Tryz.prog 19 #[.slice A n c, .int .u64 id, .string key] w fun e' w' => ∃ A c, e' = .returned (.tuple #[.slice A next.length c, .int .i64 e]) ∧ next.length ≤ c ∧ Hid (Kd.C k40 w' A next.length next) ∧ Below w.heap.size w w' := by
  subst hn
  obtain ⟨k, hk⟩ := ref_begin l id key (by have := hr.out.2.1; omega) (inner_bound hr.out)
  rw [h] at hk
  refine (cellarerref08_Begin.calls k (fun k => k < w.heap.size) A c l id key _ _ w (Kd.V_mk hc (Kd.C_F heap40 hr.out)) hk).mono ?_
  rintro e' w' ⟨v, rfl, hv, hb⟩
  obtain ⟨A', c', rfl, h1, h2⟩ := Kd.N_reads hv
  exact ⟨A', c', rfl, h1, h2, hb⟩
/-! Octets. -/
theorem roct_l1 (l : List S40) (i : Nat) (hin : i < l.length) (ps : List S25) (hps : (l.getD i z40).f2 = ps) (hn : (ps.length : Int) ≤ 9223372036854775807) (k : Nat) : ∀ (d j x : Nat), j + d = ps.length → ((x + sumP (ps.drop j) : Nat) : Int) ≤ 9223372036854775807 →
    cellarerref08_Octets.l1 (k + d + 1) l (x : Int) (i : Int) (j : Int) = cellarerref08_Octets.l0 k l ((x + sumP (ps.drop j) : Nat) : Int) (wrap64 ((i : Int) + 1)) := by
  intro d
  have e0 : (rd_T40 l (i : Int)).f2 = ps := by rw [rdU, hps]
  induction d with
  | zero =>
    intro j x hj hx
    rw [show k + 0 + 1 = k + 1 from rfl]
    simp only [cellarerref08_Octets.l1]
    rw [if_pos (by omega), if_pos (by omega), e0, if_neg (by omega), List.drop_eq_nil_of_le (by omega)]; rfl
  | succ d ih =>
    intro j x hj hx
    have hj1 : j < ps.length := by omega
    have e1 : rd_T25 ps (j : Int) = ps[j] := by unfold rd_T25; rw [Int.toNat_natCast, List.getD_eq_getElem?_getD, List.getElem?_eq_getElem hj1]; rfl
    rw [List.drop_eq_getElem_cons hj1, sumP_cons] at hx ⊢
    rw [show k + (d + 1) + 1 = (k + d + 1) + 1 from rfl]
    generalize hK : k + d + 1 = K
    simp only [cellarerref08_Octets.l1]
    subst hK
    rw [if_pos (by omega), if_pos (by omega), e0, if_pos (by omega), if_pos (by omega), e1, wrap64_of (x := (x : Int) + _) (by omega) (by omega), wrap64_of (x := (j : Int) + 1) (by omega) (by omega)]
    rw [show (x : Int) + (ps[j].f1.size : Int) = ((x + ps[j].f1.size : Nat) : Int) by omega, show (j : Int) + 1 = ((j + 1 : Nat) : Int) by omega, ih (j + 1) (x + ps[j].f1.size) (by omega) (by omega)]
    congr 2; omega
theorem roct_l0 (l : List S40) (hn : (l.length : Int) ≤ 9223372036854775807) (hi : ∀ u ∈ l, (u.f2.length : Int) ≤ 9223372036854775807) : ∀ (us : List S40) (i x : Nat), us = l.drop i → i ≤ l.length → ((x + sumU us : Nat) : Int) ≤ 9223372036854775807 →
    cellarerref08_Octets.l0 (needO us) l (x : Int) (i : Int) = some ((x + sumU us : Nat) : Int) := by
  intro us
  induction us with
  | nil =>
    intro i x hus hil hx
    have h1 : ¬ i < l.length := by
      intro h
      have := congrArg List.length hus
      rw [List.length_drop] at this; simp at this; omega
    show cellarerref08_Octets.l0 (0 + 1) _ _ _ = _
    simp only [cellarerref08_Octets.l0]
    rw [if_neg (by omega)]; rfl
  | cons u us ih =>
    intro i x hus hil hx
    have hi1 : i < l.length := by
      have := congrArg List.length hus
      rw [List.length_drop] at this; simp at this; omega
    rw [List.drop_eq_getElem_cons hi1] at hus
    injection hus with hu hus
    have hul := hi u (by rw [hu]; exact List.getElem_mem _)
    have e1 : (l.getD i z40).f2 = u.f2 := by rw [List.getD_eq_getElem?_getD, List.getElem?_eq_getElem hi1, hu]; rfl
    rw [sumU_cons] at hx ⊢
    show cellarerref08_Octets.l0 (needO us + u.f2.length + 1 + 1) _ _ _ = _
    generalize hK : needO us + u.f2.length + 1 = K
    simp only [cellarerref08_Octets.l0]
    subst hK
    rw [if_pos (by omega)]
    have := roct_l1 l i hi1 u.f2 e1 hul (needO us) u.f2.length 0 x (by omega) (by rw [List.drop_zero]; omega)
    rw [List.drop_zero, show ((0 : Nat) : Int) = 0 from rfl] at this
    rw [this, wrap64_of (x := (i : Int) + 1) (by omega) (by omega), show (i : Int) + 1 = ((i + 1 : Nat) : Int) by omega, ih (i + 1) (x + sumP u.f2) hus (by omega) (by omega)]
    congr 2; omega
theorem ref_octets_of (l : List S40) (hn : (l.length : Int) ≤ 9223372036854775807) (hi : ∀ u ∈ l, (u.f2.length : Int) ≤ 9223372036854775807) (hs : ((sumU l : Nat) : Int) ≤ 9223372036854775807) : cellarerref08_Octets.f (needO l) l = some (sumU l : Int) := by
  unfold cellarerref08_Octets.f
  have := roct_l0 l hn hi l 0 0 (by simp) (Nat.zero_le _) (by rw [Nat.zero_add]; exact hs)
  rw [Nat.zero_add] at this
  exact this
theorem few_sum (l : List S40) : sumU (fewL l) ≤ 700000 := by
  have := sumU_le (fewL l) 11 62031 (by unfold fewL; rw [List.length_map, List.length_take]; omega) (fun u hu => by
    unfold fewL at hu
    obtain ⟨v, hv, rfl⟩ := List.mem_map.1 hu
    exact sumP_le (fewU v).f2 31 2001 (by unfold fewU; simp only [List.length_map, List.length_take]; omega) (fun p hp => by
      unfold fewU at hp
      obtain ⟨q, hq, rfl⟩ := List.mem_map.1 hp
      unfold onePart
      simp only
      split
      · simp only [ByteArray.size_extract]; omega
      · omega))
  omega
theorem oct_calls (l : List S40) (hs : sumU l ≤ 700000) (A : Option Addr) (c : Nat) (w : World) (hr : Hid (Kd.C k40 w A l.length l)) (hc : l.length ≤ c) :
    Calls Tryz.prog 20 #[.slice A l.length c] w fun e w' => e = .returned (.int .i64 (sumU l : Int)) ∧ Below w.heap.size w w' :=
  (parts_Octets.calls (needO l) A c l _ w hr.out hc (octets_of l (by have := hr.out.2.1; omega) (inner_bound hr.out) (by omega))).mono fun _ _ h => ⟨h.1, h.2⟩
theorem ref_oct_calls (l : List S40) (hs : sumU l ≤ 700000) (A : Option Addr) (c : Nat) (w : World) (hr : Hid (Kd.C k40 w A l.length l)) (hc : l.length ≤ c) :
    Calls Tryz.prog 21 #[.slice A l.length c] w fun e w' => e = .returned (.int .i64 (sumU l : Int)) ∧ Below w.heap.size w w' :=
  (cellarerref08_Octets.calls (needO l) A c l _ w hr.out hc (ref_octets_of l (by have := hr.out.2.1; omega) (inner_bound hr.out) (by omega))).mono fun _ _ h => ⟨h.1, outD h.2⟩
end Go.Proofs.YtgpmkbmobdbdoaaGreatDoor.Q

-- V9
namespace Go.Proofs.YtgpmkbmobdbdoaaGreatDoor.Q
open Go.RowKit Go.Proofs.YtgpmkbmobdbdoaaGreatDoorW.PrintWords Go.Proofs.YtgpmkbmobdbdoaaGreatDoorW.PrintLast Go.Proofs.YtgpmkbmobdbdoaaGreatDoorW.PrintMore
set_option linter.unusedVariables false
set_option linter.unusedSimpArgs false

attribute [local go_sem high] eqA25
/-! The program's Same. -/
def eqP (x y : S25) : Bool := (x.f0 == y.f0) && (x.f1.toList == y.f1.toList)
def sameP (a b : List S25) : Bool := (a.length == b.length) && allFrom (fun i => eqP (a.getD i z25) (b.getD i z25)) 0 a.length
theorem allFrom_false {f : Nat → Bool} : ∀ {n i k : Nat}, i ≤ k → k < i + n → f k = false → allFrom f i n = false
  | 0, i, k, h1, h2, _ => by omega
  | n + 1, i, k, h1, h2, hf => by
    show (f i && allFrom f (i + 1) n) = false
    by_cases h : i = k
    · rw [h, hf]; rfl
    · rw [allFrom_false (by omega) (by omega) hf, Bool.and_false]
theorem allFrom_all {f : Nat → Bool} : ∀ {n i : Nat}, (∀ j, i ≤ j → j < i + n → f j = true) → allFrom f i n = true
  | 0, i, _ => rfl
  | n + 1, i, h => by
    show (f i && allFrom f (i + 1) n) = true
    rw [h i (Nat.le_refl _) (by omega), Bool.true_and]
    exact allFrom_all (fun j h1 h2 => h j (by omega) (by omega))
theorem allFrom_true {f : Nat → Bool} {n : Nat} (h : ∀ j, j < n → f j = true) : allFrom f 0 n = true := allFrom_all (fun j _ h2 => h j (by omega))
theorem at25p {w w1 : World} {A : Option Addr} {l : List S25} (hr : Kd.C k25 w A l.length l) (hb : Below w.heap.size w w1) (k : Nat) (h : k < l.length) :
    ∃ ad, A = some ad ∧ w1.cell? (ad.add (k * 2)) = some (.int .i64 (l.getD k z25).f0) ∧ w1.cell? ⟨(ad.add (k * 2)).block, (ad.add (k * 2)).off + 1, none⟩ = some (.string (l.getD k z25).f1) := by
  obtain ⟨ad, e, h0, h1⟩ := at_T25 hr k (by omega) (by omega)
  unfold rd_T25 at h0 h1
  rw [Int.toNat_natCast] at h0 h1
  exact ⟨ad, e, keepc hb h0, keepc hb h1⟩
set_option maxHeartbeats 2000000 in
set_option maxRecDepth 100000 in
theorem eq43.walk (A B : Option Addr) (c d : Nat) (l m : List S25) (w : World) (hr : Kd.C k25 w A l.length l) (hm : Kd.C k25 w B m.length m) :
    Calls Tryz.prog 43 #[.slice A l.length c, .slice B m.length d] w fun e w' => e = .returned (.bool (sameP l m)) ∧ Below w.heap.size w w' := by
  have HR := Lib.hid hr
  have HM := Lib.hid hm
  have hlen : (l.length : Int) ≤ 9223372036854775807 := by have := hr.2.1; omega
  have hmen : (m.length : Int) ≤ 9223372036854775807 := by have := hm.2.1; omega
  clear hr hm
  have HB0 : Hid (Below w.heap.size w w) := Below.refl _ _
  by_cases hlm : l.length = m.length
  · have HE : Hid (sameP l m = allFrom (fun i => eqP (l.getD i z25) (m.getD i z25)) 0 l.length) := by unfold Hid sameP; rw [beq_iff_eq.2 hlm, Bool.true_and]
    have hq : ((l.length : Int) != (m.length : Int)) = false := by rw [hlm]; simp
    have HLM := Lib.hid hlm
    clear hlm
    go_enter Tryz.func43, Tryz.ntmps43
    go_wp2
    go_loopw [5, 13] (fun _ i wr => ∃ (k : Nat), i = .int .i64 k ∧ k ≤ l.length ∧ Hid (∀ j (hj : j < k), eqP (l.getD j z25) (m.getD j z25) = true) ∧ Hid (Below w.heap.size w wr)) (fun _ i _ => l.length - (intOf i).toNat)
    case atStart => exact ⟨0, rfl, Nat.zero_le _, fun j hj => absurd hj (Nat.not_lt_zero _), HB0⟩
    case round =>
      obtain ⟨k, rfl, hk, hall, hb⟩ := hrel
      by_cases hlt : k < l.length
      · obtain ⟨ad, e1, a0, a1⟩ := at25p HR.out hb.out k hlt
        obtain ⟨ad2, e2, b0, b1⟩ := at25p HM.out hb.out k (by have := HLM.out; omega)
        subst e1
        subst e2
        have hkm : k < m.length := by have := HLM.out; omega
        cases hp : eqP (l.getD k z25) (m.getD k z25)
        · have hE2 : Hid (sameP l m = false) := by
            rw [HE.out]
            unfold Hid
            exact allFrom_false (by omega) (by omega) hp
          unfold eqP at hp
          generalize l.getD k z25 = x at *
          generalize m.getD k z25 = y at *
          go_wp2
          go_region
          go_wp2
          go_ret
          exact ⟨by rw [hE2.out]; rfl, hb.out.drew⟩
        · have hn : Hid (∀ j (hj : j < k + 1), eqP (l.getD j z25) (m.getD j z25) = true) := fun j hj => by
            rcases Nat.eq_or_lt_of_le (Nat.le_of_lt_succ hj) with rfl | h
            · exact hp
            · exact hall.out j h
          unfold eqP at hp
          generalize l.getD k z25 = x at a0 a1 hp
          generalize m.getD k z25 = y at b0 b1 hp
          go_wp2
          go_region
          go_wp2
          go_roundw
          case rel => exact ⟨k + 1, by go_num, by omega, hn, hb.out.drew⟩
          case measure => simp [intOf]; omega
      · have hE2 : Hid (sameP l m = true) := by
          rw [HE.out]
          exact allFrom_true (fun j hj => hall.out j (by omega))
        go_wp2
        go_ret
        exact ⟨by rw [hE2.out]; rfl, hb.out⟩
  · have HE : Hid (sameP l m = false) := by unfold Hid sameP; rw [beq_eq_false_iff_ne.2 hlm, Bool.false_and]
    have hq : ((l.length : Int) != (m.length : Int)) = true := by simp; omega
    go_enter Tryz.func43, Tryz.ntmps43
    go_wp2
    go_ret
    exact ⟨by rw [HE.out]; rfl, HB0.out⟩
end Go.Proofs.YtgpmkbmobdbdoaaGreatDoor.Q

-- V10
namespace Go.Proofs.YtgpmkbmobdbdoaaGreatDoor.Q
open Go.RowKit Go.Proofs.YtgpmkbmobdbdoaaGreatDoorW.PrintWords Go.Proofs.YtgpmkbmobdbdoaaGreatDoorW.PrintLast Go.Proofs.YtgpmkbmobdbdoaaGreatDoorW.PrintMore
set_option linter.unusedVariables false
set_option linter.unusedSimpArgs false

def sameU (u v : S40) : Bool := (u.f0 == v.f0) && ((u.f1.toList == v.f1.toList) && sameP u.f2 v.f2)
def sameL (a b : List S40) : Bool := (a.length == b.length) && allFrom (fun i => sameU (a.getD i z40) (b.getD i z40)) 0 a.length
set_option maxHeartbeats 2000000 in
set_option maxRecDepth 100000 in
theorem same42.walk (u v : S40) (A B : Option Addr) (c d : Nat) (w : World) (hr : Kd.C k25 w A u.f2.length u.f2) (hm : Kd.C k25 w B v.f2.length v.f2) :
    Calls Tryz.prog 42 #[.agg #[.int .u64 u.f0, .string u.f1, .slice A u.f2.length c], .agg #[.int .u64 v.f0, .string v.f1, .slice B v.f2.length d]] w fun e w' => e = .returned (.bool (sameU u v)) ∧ Below w.heap.size w w' := by
  have HB0 : Hid (Below w.heap.size w w) := Below.refl _ _
  have HQ : Hid (∀ W, Below w.heap.size w W → Calls Tryz.prog 43 #[.slice A u.f2.length c, .slice B v.f2.length d] W fun e w' => e = .returned (.bool (sameP u.f2 v.f2)) ∧ Below W.heap.size W w') := fun W hb => eq43.walk A B c d u.f2 v.f2 W (Kd.C_below hr hb) (Kd.C_below hm hb)
  clear hr hm
  have HE : Hid (sameU u v = ((u.f0 == v.f0) && ((u.f1.toList == v.f1.toList) && sameP u.f2 v.f2))) := rfl
  generalize sameU u v = r at *
  generalize sameP u.f2 v.f2 = q at *
  generalize u.f0 = x0 at *
  generalize v.f0 = y0 at *
  generalize u.f1 = x1 at *
  generalize v.f1 = y1 at *
  cases h0 : (x0 == y0)
  · have HE2 : Hid (r = false) := by rw [Hid, HE.out, h0]; rfl
    clear HE
    go_enter Tryz.func42, Tryz.ntmps42
    go_wp2
    go_ret
    exact ⟨by rw [HE2.out]; rfl, below2 w _ _⟩
  · cases h1 : (x1.toList == y1.toList)
    · have HE2 : Hid (r = false) := by rw [Hid, HE.out, h0, h1]; rfl
      clear HE
      go_enter Tryz.func42, Tryz.ntmps42
      go_wp2
      go_ret
      exact ⟨by rw [HE2.out]; rfl, below2 w _ _⟩
    · have HB2 : Hid (Below w.heap.size w ((w.alloc (.cells #[.int .u64 x0, .string x1, .slice A u.f2.length c] 40)).alloc (.cells #[.int .u64 y0, .string y1, .slice B v.f2.length d] 40))) := below2 w _ _
      have HE2 : Hid (r = q) := by rw [Hid, HE.out, h0, h1]; rfl
      clear HE
      go_enter Tryz.func42, Tryz.ntmps42
      go_wp2_with (go_at_call 43; refine (HQ.out _ HB2.out).mono ?_; rintro e w1 ⟨rfl, hb⟩; have HB1 := keepB HB2 hb; clear hb)
      go_ret
      exact ⟨by rw [HE2.out]; rfl, HB1.out⟩
theorem k3a {w : World} {g : Nat} {a b c : Value} {t : TypeId} (h : w.heap[g]? = some (.cells #[a, b, c] t (0, 0))) : w.cell? ⟨g, 0, none⟩ = some a := (blk_cell h 0).trans rfl
theorem k3b {w : World} {g : Nat} {a b c : Value} {t : TypeId} (h : w.heap[g]? = some (.cells #[a, b, c] t (0, 0))) : w.cell? ⟨g, 1, none⟩ = some b := (blk_cell h 1).trans rfl
theorem k3c {w : World} {g : Nat} {a b c : Value} {t : TypeId} (h : w.heap[g]? = some (.cells #[a, b, c] t (0, 0))) : w.cell? ⟨g, 2, none⟩ = some c := (blk_cell h 2).trans rfl
theorem at40d {w w1 : World} {A : Option Addr} {l : List S40} (hr : Kd.C k40 w A l.length l) (hb : Below w.heap.size w w1) (k : Nat) (h : k < l.length) :
    ∃ ad A2 c2, A = some ad ∧ w1.cell? (ad.add (k * 3)) = some (.int .u64 (l.getD k z40).f0) ∧ w1.cell? ⟨(ad.add (k * 3)).block, (ad.add (k * 3)).off + 1, none⟩ = some (.string (l.getD k z40).f1) ∧
      w1.cell? ⟨(ad.add (k * 3)).block, (ad.add (k * 3)).off + 2, none⟩ = some (.slice A2 (l.getD k z40).f2.length c2) ∧ Kd.C k25 w1 A2 (l.getD k z40).f2.length (l.getD k z40).f2 := by
  obtain ⟨ad, A2, c2, e, h0, h1, h2, h3, h4⟩ := at_T40 hr k (by omega) (by omega)
  rw [Int.toNat_natCast] at h0 h1 h2
  rw [rdU] at h0 h1 h2 h4
  exact ⟨ad, A2, c2, e, keepc hb h0, keepc hb h1, keepc hb h2, Kd.C_below h4 hb⟩
set_option maxHeartbeats 2000000 in
set_option maxRecDepth 100000 in
theorem same41.walk (A B : Option Addr) (c d : Nat) (l m : List S40) (w : World) (hr : Kd.C k40 w A l.length l) (hm : Kd.C k40 w B m.length m) :
    Calls Tryz.prog 41 #[.slice A l.length c, .slice B m.length d, .func (.func 42) #[] #[]] w fun e w' => e = .returned (.bool (sameL l m)) ∧ Below w.heap.size w w' := by
  have HR := Lib.hid hr
  have HM := Lib.hid hm
  have hlen : (l.length : Int) ≤ 9223372036854775807 := by have := hr.2.1; omega
  have hmen : (m.length : Int) ≤ 9223372036854775807 := by have := hm.2.1; omega
  clear hr hm
  have HB0 : Hid (Below w.heap.size w w) := Below.refl _ _
  by_cases hlm : l.length = m.length
  · have HE : Hid (sameL l m = allFrom (fun i => sameU (l.getD i z40) (m.getD i z40)) 0 l.length) := by unfold Hid sameL; rw [beq_iff_eq.2 hlm, Bool.true_and]
    have hq : ((l.length : Int) != (m.length : Int)) = false := by rw [hlm]; simp
    have HLM := Lib.hid hlm
    clear hlm
    go_enter Tryz.func41, Tryz.ntmps41
    go_wp2
    go_loopw [7, 17] (fun _ i wr => ∃ (k : Nat), i = .int .i64 k ∧ k ≤ l.length ∧ Hid (∀ j (hj : j < k), sameU (l.getD j z40) (m.getD j z40) = true) ∧ Hid (Below w.heap.size w wr)) (fun _ i _ => l.length - (intOf i).toNat)
    case atStart => exact ⟨0, rfl, Nat.zero_le _, fun j hj => absurd hj (Nat.not_lt_zero _), HB0⟩
    case round =>
      obtain ⟨k, rfl, hk, hall, hb⟩ := hrel
      by_cases hlt : k < l.length
      · have hkm : k < m.length := by have := HLM.out; omega
        obtain ⟨ad, A2, c2, e1, a0, a1, a2, a3⟩ := at40d HR.out hb.out k hlt
        have HBa := keepB hb (below1 wr (.cells #[.int .u64 (l.getD k z40).f0, .string (l.getD k z40).f1, .slice A2 (l.getD k z40).f2.length c2] 40))
        obtain ⟨ad2, B2, d2, e2, b0, b1, b2, b3⟩ := at40d HM.out HBa.out k hkm
        subst e1
        subst e2
        have HBb := keepB hb (below2 wr (.cells #[.int .u64 (l.getD k z40).f0, .string (l.getD k z40).f1, .slice A2 (l.getD k z40).f2.length c2] 40) (.cells #[.int .u64 (m.getD k z40).f0, .string (m.getD k z40).f1, .slice B2 (m.getD k z40).f2.length d2] 40))
        have HC := Lib.hid (same42.walk (l.getD k z40) (m.getD k z40) A2 B2 c2 d2 ((wr.alloc (.cells #[.int .u64 (l.getD k z40).f0, .string (l.getD k z40).f1, .slice A2 (l.getD k z40).f2.length c2] 40)).alloc (.cells #[.int .u64 (m.getD k z40).f0, .string (m.getD k z40).f1, .slice B2 (m.getD k z40).f2.length d2] 40)) (Kd.C_below a3 (below2 wr _ _)) (Kd.C_below b3 (below1 (wr.alloc _) _)))
        have g0 := k3a (blk_alloc (blk_new wr (.cells #[.int .u64 (l.getD k z40).f0, .string (l.getD k z40).f1, .slice A2 (l.getD k z40).f2.length c2] 40)) (.cells #[.int .u64 (m.getD k z40).f0, .string (m.getD k z40).f1, .slice B2 (m.getD k z40).f2.length d2] 40))
        have g1 := k3b (blk_alloc (blk_new wr (.cells #[.int .u64 (l.getD k z40).f0, .string (l.getD k z40).f1, .slice A2 (l.getD k z40).f2.length c2] 40)) (.cells #[.int .u64 (m.getD k z40).f0, .string (m.getD k z40).f1, .slice B2 (m.getD k z40).f2.length d2] 40))
        have g2 := k3c (blk_alloc (blk_new wr (.cells #[.int .u64 (l.getD k z40).f0, .string (l.getD k z40).f1, .slice A2 (l.getD k z40).f2.length c2] 40)) (.cells #[.int .u64 (m.getD k z40).f0, .string (m.getD k z40).f1, .slice B2 (m.getD k z40).f2.length d2] 40))
        clear a3 b3
        cases hp : sameU (l.getD k z40) (m.getD k z40)
        · have hE2 : Hid (sameL l m = false) := by
            rw [HE.out]
            unfold Hid
            exact allFrom_false (by omega) (by omega) hp
          rw [hp] at HC
          clear hp
          generalize l.getD k z40 = x at *
          generalize m.getD k z40 = y at *
          go_wp2_with (go_at_call 42; refine HC.out.mono ?_; rintro e w1 ⟨rfl, hb1⟩; have HB1 := keepB HBb hb1; clear hb1)
          go_ret
          exact ⟨by rw [hE2.out]; rfl, HB1.out⟩
        · have hn : Hid (∀ j (hj : j < k + 1), sameU (l.getD j z40) (m.getD j z40) = true) := fun j hj => by
            rcases Nat.eq_or_lt_of_le (Nat.le_of_lt_succ hj) with rfl | h
            · exact hp
            · exact hall.out j h
          rw [hp] at HC
          clear hp
          generalize l.getD k z40 = x at a0 a1 a2 HC HBa HBb b0 b1 b2 g0 g1 g2
          generalize m.getD k z40 = y at b0 b1 b2 HC HBb g0 g1 g2
          go_wp2_with (go_at_call 42; refine HC.out.mono ?_; rintro e w1 ⟨rfl, hb1⟩; have HB1 := keepB HBb hb1; clear hb1)
          go_roundw
          case rel => exact ⟨k + 1, by go_num, by omega, hn, HB1⟩
          case measure => simp [intOf]; omega
      · have hE2 : Hid (sameL l m = true) := by
          rw [HE.out]
          exact allFrom_true (fun j hj => hall.out j (by omega))
        go_wp2
        go_ret
        exact ⟨by rw [hE2.out]; rfl, hb.out⟩
  · have HE : Hid (sameL l m = false) := by unfold Hid sameL; rw [beq_eq_false_iff_ne.2 hlm, Bool.false_and]
    have hq : ((l.length : Int) != (m.length : Int)) = true := by simp; omega
    go_enter Tryz.func41, Tryz.ntmps41
    go_wp2
    go_ret
    exact ⟨by rw [HE.out]; rfl, HB0.out⟩
end Go.Proofs.YtgpmkbmobdbdoaaGreatDoor.Q

-- V11
namespace Go.Proofs.YtgpmkbmobdbdoaaGreatDoor.Q
open Go.RowKit Go.Proofs.YtgpmkbmobdbdoaaGreatDoorW.PrintWords Go.Proofs.YtgpmkbmobdbdoaaGreatDoorW.PrintLast Go.Proofs.YtgpmkbmobdbdoaaGreatDoorW.PrintMore
set_option linter.unusedVariables false
set_option linter.unusedSimpArgs false

/-! Same: the program's, and the document's. -/
theorem psame.walk (A B : Option Addr) (c d : Nat) (l m : List S40) (w : World) (hr : Hid (Kd.C k40 w A l.length l)) (hm : Hid (Kd.C k40 w B m.length m)) :
    Calls Tryz.prog 22 #[.slice A l.length c, .slice B m.length d] w fun e w' => e = .returned (.bool (sameL l m)) ∧ Below w.heap.size w w' := by
  have HC := Lib.hid (same41.walk A B c d l m w hr.out hm.out)
  clear hr hm
  go_enter Tryz.func22, Tryz.ntmps22
  go_wp2_with (go_at_call 41; refine HC.out.mono ?_; rintro e w1 ⟨rfl, hb1⟩; have HB1 := Lib.hid hb1; clear hb1)
  go_ret
  exact ⟨rfl, HB1.out⟩
theorem rdP (l : List S25) (i : Nat) : rd_T25 l (i : Int) = l.getD i z25 := by unfold rd_T25; rw [Int.toNat_natCast]
theorem rsame_l1 (l m : List S40) (i : Nat) (hi : i < l.length) (him : i < m.length) (u v : S40) (eu : l.getD i z40 = u) (ev : m.getD i z40 = v) (hl : u.f2.length = v.f2.length) (hb : (u.f2.length : Int) ≤ 9223372036854775807) (k : Nat) : ∀ (d j : Nat), j + d = u.f2.length →
    cellarerref08_Same.l1 (k + d + 1) l m (i : Int) (j : Int) = if allFrom (fun j => eqP (u.f2.getD j z25) (v.f2.getD j z25)) j d = true then cellarerref08_Same.l0 k l m (wrap64 ((i : Int) + 1)) else some false := by
  intro d
  induction d with
  | zero =>
    intro j hj
    rw [show k + 0 + 1 = k + 1 from rfl]
    simp only [cellarerref08_Same.l1]
    rw [rdU, eu, if_pos (by omega), if_pos (by omega), if_neg (by omega)]
    rfl
  | succ d ih =>
    intro j hj
    rw [show k + (d + 1) + 1 = (k + d + 1) + 1 from rfl]
    generalize hK : k + d + 1 = K
    simp only [cellarerref08_Same.l1]
    subst hK
    rw [rdU, rdU, eu, ev, rdP, rdP, if_pos (by omega), if_pos (by omega), if_pos (by omega), if_pos (by omega), if_pos (by omega), if_pos (by omega)]
    show _ = if (eqP (u.f2.getD j z25) (v.f2.getD j z25) && allFrom (fun j => eqP (u.f2.getD j z25) (v.f2.getD j z25)) (j + 1) d) = true then _ else _
    rw [wrap64_of (by omega) (by omega), show (j : Int) + 1 = ((j + 1 : Nat) : Int) by omega, ih (j + 1) (by omega)]
    unfold eqP
    generalize u.f2.getD j z25 = x
    generalize v.f2.getD j z25 = y
    cases (x.f0 == y.f0) <;> cases (x.f1.toList == y.f1.toList) <;> rfl
theorem rsame_l0 (l m : List S40) (hlm : l.length = m.length) (hn : (l.length : Int) ≤ 9223372036854775807) (hm : ∀ u ∈ l, (u.f2.length : Int) ≤ 9223372036854775807) : ∀ (us : List S40) (i : Nat), us = l.drop i → i ≤ l.length →
    cellarerref08_Same.l0 (needS us) l m (i : Int) = some (allFrom (fun i => sameU (l.getD i z40) (m.getD i z40)) i us.length) := by
  intro us
  induction us with
  | nil =>
    intro i hus hil
    have h1 : ¬ i < l.length := by
      intro h
      have := congrArg List.length hus
      rw [List.length_drop] at this; simp at this; omega
    show cellarerref08_Same.l0 (0 + 1) _ _ _ = _
    simp only [cellarerref08_Same.l0]
    rw [if_neg (by omega)]; rfl
  | cons u us ih =>
    intro i hus hil
    have hi1 : i < l.length := by
      have := congrArg List.length hus
      rw [List.length_drop] at this; simp at this; omega
    rw [List.drop_eq_getElem_cons hi1] at hus
    injection hus with hu hus
    have eu : l.getD i z40 = u := by rw [List.getD_eq_getElem?_getD, List.getElem?_eq_getElem hi1, hu]; rfl
    have hul := hm u (by rw [hu]; exact List.getElem_mem _)
    obtain ⟨v, ev⟩ : ∃ v, m.getD i z40 = v := ⟨_, rfl⟩
    have ihh := ih (i + 1) hus (by omega)
    have hw : wrap64 ((i : Int) + 1) = ((i + 1 : Nat) : Int) := by rw [wrap64_of (by omega) (by omega)]; omega
    have hL := rsame_l1 l m i hi1 (by omega) u v eu ev
    have hR : allFrom (fun i => sameU (l.getD i z40) (m.getD i z40)) i (u :: us).length = (sameU u v && allFrom (fun i => sameU (l.getD i z40) (m.getD i z40)) (i + 1) us.length) := by rw [← eu, ← ev]; rfl
    rw [hR]
    generalize allFrom (fun i => sameU (l.getD i z40) (m.getD i z40)) (i + 1) us.length = q at *
    show cellarerref08_Same.l0 (needS us + u.f2.length + 1 + 1 + 1) _ _ _ = _
    have hj : cellarerref08_Same.j1 (needS us + u.f2.length + 1 + 1) l m (i : Int) true = some false := by
      generalize needS us + u.f2.length + 1 = K
      simp only [cellarerref08_Same.j1]
      rw [if_pos trivial]
    generalize hK : needS us + u.f2.length + 1 + 1 = K at *
    simp only [cellarerref08_Same.l0]
    rw [rdU, rdU, eu, ev, if_pos (by omega), if_pos (by omega), if_pos (by omega), hj]
    unfold sameU sameP
    by_cases h0 : u.f0 = v.f0
    · rw [if_pos h0, beq_iff_eq.2 h0]
      by_cases h1 : u.f1.toList = v.f1.toList
      · rw [if_pos h1, beq_iff_eq.2 h1]
        by_cases h2 : u.f2.length = v.f2.length
        · rw [show ((u.f2.length : Int) != (v.f2.length : Int)) = false by rw [h2]; simp, beq_iff_eq.2 h2]
          subst hK
          generalize hK : needS us + u.f2.length + 1 = K
          simp only [cellarerref08_Same.j1]
          subst hK
          rw [if_neg (by simp)]
          have := hL h2 hul (needS us) u.f2.length 0 (by omega)
          rw [show ((0 : Nat) : Int) = 0 from rfl] at this
          rw [this, hw, ihh]
          cases allFrom (fun j => eqP (u.f2.getD j z25) (v.f2.getD j z25)) 0 u.f2.length <;> rfl
        · rw [show ((u.f2.length : Int) != (v.f2.length : Int)) = true by simp; omega, hj, beq_eq_false_iff_ne.2 h2]; rfl
      · rw [if_neg h1, beq_eq_false_iff_ne.2 h1]; rfl
    · rw [if_neg h0, beq_eq_false_iff_ne.2 h0]; rfl
theorem rsame_of (l m : List S40) (hn : (l.length : Int) ≤ 9223372036854775807) (hm : ∀ u ∈ l, (u.f2.length : Int) ≤ 9223372036854775807) : cellarerref08_Same.f (needS l) l m = some (sameL l m) := by
  unfold cellarerref08_Same.f sameL
  by_cases h : l.length = m.length
  · rw [if_pos (by omega), beq_iff_eq.2 h, Bool.true_and]
    exact rsame_l0 l m h hn hm l 0 (by simp) (Nat.zero_le _)
  · rw [if_neg (by omega), beq_eq_false_iff_ne.2 h, Bool.false_and]
theorem rsame_calls (A B : Option Addr) (c d : Nat) (l m : List S40) (w : World) (hr : Hid (Kd.C k40 w A l.length l)) (hc : l.length ≤ c) (hm : Hid (Kd.C k40 w B m.length m)) (hd : m.length ≤ d) :
    Calls Tryz.prog 13 #[.slice A l.length c, .slice B m.length d] w fun e w' => e = .returned (.bool (sameL l m)) ∧ Below w.heap.size w w' :=
  (cellarerref08_Same.calls (needS l) A c l B d m _ w hr.out hc hm.out hd (rsame_of l m (by have := hr.out.2.1; omega) (inner_bound hr.out))).mono fun _ _ h => ⟨h.1, outD h.2⟩
theorem rsame_refl (A B : Option Addr) (c d : Nat) (l : List S40) (w : World) (hr : Hid (Kd.C k40 w A l.length l)) (hc : l.length ≤ c) (hm : Hid (Kd.C k40 w B l.length l)) (hd : l.length ≤ d) :
    Calls Tryz.prog 13 #[.slice A l.length c, .slice B l.length d] w fun e w' => e = .returned (.bool true) ∧ Below w.heap.size w w' :=
  (same_calls hr.out hc hm.out hd).mono fun _ _ h => ⟨h.1, outD h.2⟩
end Go.Proofs.YtgpmkbmobdbdoaaGreatDoor.Q

-- V12
namespace Go.Proofs.YtgpmkbmobdbdoaaGreatDoor.Q
open Go.RowKit Go.Proofs.YtgpmkbmobdbdoaaGreatDoorW.PrintWords Go.Proofs.YtgpmkbmobdbdoaaGreatDoorW.PrintLast Go.Proofs.YtgpmkbmobdbdoaaGreatDoorW.PrintMore
set_option linter.unusedVariables false
set_option linter.unusedSimpArgs false

theorem fewkey_calls (s : ByteArray) (w : World) : Calls Tryz.prog 17 #[.string s] w fun e w' => e = .returned (.string (fewKey s)) ∧ Below w.heap.size w w' := (cellarerlaw01_Few.calls s _ w (few_key s)).mono fun _ _ h => ⟨h.1, by first | exact h.2 | exact outD h.2⟩
set_option maxHeartbeats 16000000 in
set_option maxRecDepth 100000 in
theorem begins.walk (A B : Option Addr) (c d : Nat) (l m : List S40) (q : S40) (A2 : Option Addr) (c2 : Nat) (w : World) (hr : Kd.C k40 w A l.length l) (hc : l.length ≤ c) (hm : Kd.C k40 w B m.length m) (hd : m.length ≤ d) :
    Calls Tryz.prog 4 #[.slice A l.length c, .slice B m.length d, .agg #[.int .u64 q.f0, .string q.f1, .slice A2 q.f2.length c2]] w fun e w' => e = .returned (.bool true) ∧ Below w.heap.size w w' := by
  have HFL := Lib.hid (fun (W : World) (hb : Below w.heap.size w W) => few.walk A c l W (Kd.C_below hr hb) hc)
  have HFM := Lib.hid (fun (W : World) (hb : Below w.heap.size w W) => few.walk B d m W (Kd.C_below hm hb) hd)
  have HKEY : Hid (∀ W, Calls Tryz.prog 17 #[.string q.f1] W fun e w' => e = .returned (.string (fewKey q.f1)) ∧ Below W.heap.size W w') := fun W => fewkey_calls _ W
  have HAW : Hid (∀ W, Calls Tryz.prog 16 #[] W fun e w' => e = .returned (.bool true) ∧ Below W.heap.size W w') := fun W => awake.walk W
  have HS : Hid (sumU (fewL l) ≤ 700000) := few_sum l
  clear hr hm
  generalize fewL l = l1 at *
  generalize fewL m = m1 at *
  generalize fewKey q.f1 = key at *
  obtain ⟨next, e, hE⟩ : ∃ next e, beginR l1 q.f0 key = (next, e) := ⟨_, _, rfl⟩
  have HBEG := Lib.hid hE
  clear hE
  have HO1 : Hid (∀ W A c, Hid (Kd.C k40 W A l1.length l1) → l1.length ≤ c → Calls Tryz.prog 20 #[.slice A l1.length c] W fun e w' => e = .returned (.int .i64 (sumU l1 : Int)) ∧ Below W.heap.size W w') := fun W A c h hc => oct_calls l1 HS.out A c W h hc
  have HO2 : Hid (∀ W A c, Hid (Kd.C k40 W A l1.length l1) → l1.length ≤ c → Calls Tryz.prog 21 #[.slice A l1.length c] W fun e w' => e = .returned (.int .i64 (sumU l1 : Int)) ∧ Below W.heap.size W w') := fun W A c h hc => ref_oct_calls l1 HS.out A c W h hc
  have HS1 : Hid (∀ W A c B d, Hid (Kd.C k40 W A l1.length l1) → Hid (Kd.C k40 W B m1.length m1) → Calls Tryz.prog 22 #[.slice A l1.length c, .slice B m1.length d] W fun e w' => e = .returned (.bool (sameL l1 m1)) ∧ Below W.heap.size W w') := fun W A c B d h1 h2 => psame.walk A B c d l1 m1 W h1 h2
  have HS2 : Hid (∀ W A c B d, Hid (Kd.C k40 W A l1.length l1) → l1.length ≤ c → Hid (Kd.C k40 W B m1.length m1) → m1.length ≤ d → Calls Tryz.prog 13 #[.slice A l1.length c, .slice B m1.length d] W fun e w' => e = .returned (.bool (sameL l1 m1)) ∧ Below W.heap.size W w') := fun W A c B d h1 h2 h3 h4 => rsame_calls A B c d l1 m1 W h1 h2 h3 h4
  clear HS
  generalize sameL l1 m1 = sm at *
  generalize (sumU l1 : Int) = su at *
  have hsm : (sm == sm) = true := by simp
  have hsu : (su == su) = true := by simp
  have hee : (e == e) = true := by simp
  have T0 : Hid True := trivial
  have T1 : Hid True := trivial
  have HA : Hid (Below w.heap.size w (w.alloc (.cells #[.int .u64 q.f0, .string q.f1, .slice A2 q.f2.length c2] 40))) := below1 w _
  have HK0 : Hid ((w.alloc (.cells #[.int .u64 q.f0, .string q.f1, .slice A2 q.f2.length c2] 40)).heap[w.heap.size]? = some (.cells #[.int .u64 q.f0, .string q.f1, .slice A2 q.f2.length c2] 40)) := blk_new w _
  go_enter Tryz.func4, Tryz.ntmps4
  go_wp2_with (first
    | (go_at_call 5; have _t := T0; refine (HFL.out _ HA.out).mono ?_; rintro e1 w1 ⟨A1, c1, rfl, hc1, hC1, hb⟩; have HL1 := Lib.hid hC1; have HB1 := keepB HA hb; have BK1 := Lib.hid (blk_below HK0.out hb); clear hb hC1 _t T0)
    | (go_at_call 5; refine (HFM.out _ HB1.out).mono ?_; rintro e2 w2 ⟨A3, c3, rfl, hc3, hC3, hb⟩; have Q2 : Hid ((((Bun.bel w).and (Bun.blk w.heap.size (.cells #[.int .u64 q.f0, .string q.f1, .slice A2 q.f2.length c2] 40))).and ((Bun.C k40 A1 l1.length l1).and (Bun.C k40 A3 m1.length m1))).P w2) := ⟨⟨(keepB HB1 hb).out, blk_below BK1.out hb⟩, Kd.C_below HL1.out hb, hC3⟩; have v0 := k3a Q2.out.1.2; have v1 := k3b Q2.out.1.2; clear hb hC3)
    | (go_at_call 17; refine (HKEY.out _).mono ?_; rintro e3 w3 ⟨rfl, hb⟩; have Q3 := keepQ Q2 hb; have v0 := k3a Q3.out.1.2; have v1 := k3b Q3.out.1.2; clear hb)
    | (go_at_call 18; refine (begin_calls A1 c1 _ l1 q.f0 key _ next e HBEG.out rfl Q3.out.2.1 hc1).mono ?_; rintro e4 w4 ⟨A5, c5, rfl, hc5, HC5, hb⟩; have Q4 := addC Q3 hb HC5; have v0 := k3a Q4.out.1.1.2; have v1 := k3b Q4.out.1.1.2; clear hb HC5)
    | (go_at_call 19; refine (ref_begin_calls A1 c1 _ l1 q.f0 key _ next e HBEG.out rfl Q4.out.1.2.1 hc1).mono ?_; rintro e5 w5 ⟨A6, c6, rfl, hc6, HC6, hb⟩; have Q5 := addC Q4 hb HC6; clear hb HC6)
    | (go_at_call 13; have _t := T1; refine (rsame_refl _ _ _ _ next _ Q5.out.1.2 hc5 Q5.out.2 hc6).mono ?_; rintro e6 w6 ⟨rfl, hb⟩; have Q6 := keepQ Q5 hb; clear hb _t T1)
    | (go_at_call 20; refine (HO1.out _ A1 c1 Q6.out.1.1.2.1 hc1).mono ?_; rintro e7 w7 ⟨rfl, hb⟩; have Q7 := keepQ Q6 hb; clear hb)
    | (go_at_call 21; refine (HO2.out _ A1 c1 Q7.out.1.1.2.1 hc1).mono ?_; rintro e8 w8 ⟨rfl, hb⟩; have Q8 := keepQ Q7 hb; clear hb)
    | (go_at_call 22; refine (HS1.out _ A1 c1 A3 c3 Q8.out.1.1.2.1 Q8.out.1.1.2.2).mono ?_; rintro e9 w9 ⟨rfl, hb⟩; have Q9 := keepQ Q8 hb; clear hb)
    | (go_at_call 13; refine (HS2.out _ A1 c1 A3 c3 Q9.out.1.1.2.1 hc1 Q9.out.1.1.2.2 hc3).mono ?_; rintro e10 w10 ⟨rfl, hb⟩; have Q10 := keepQ Q9 hb; clear hb)
    | (go_at_call 16; refine (HAW.out _).mono ?_; rintro e11 w11 ⟨rfl, hb⟩; have Q11 := keepQ Q10 hb; clear hb))
  go_ret
  exact ⟨rfl, Q11.out.1.1.1.1⟩
end Go.Proofs.YtgpmkbmobdbdoaaGreatDoor.Q

-- U3
namespace Go.Proofs.YtgpmkbmobdbdoaaGreatDoor.Q
open Go.RowKit Go.Proofs.YtgpmkbmobdbdoaaGreatDoorW.PrintWords Go.Proofs.YtgpmkbmobdbdoaaGreatDoorW.PrintLast Go.Proofs.YtgpmkbmobdbdoaaGreatDoorW.PrintMore
set_option linter.unusedVariables false
set_option linter.unusedSimpArgs false

/-! What an argument's reading gives: the kinds' own relation. -/
set_option maxRecDepth 100000 in
theorem open_upload {H : Type} {enc : TypeId × Value → H} {W : World} {base : Nat} {v : Value} {d : DataW H} {p : List MemPlace} (hv : Value.okWide Tryz.prog W .any base 40 v) (h : DataW.Trod enc Tryz.prog W 0 (fun _ => true) true 40 v d p) :
    ∃ (u : S40) (A2 : Option Addr) (c2 : Nat), v = .agg #[.int .u64 u.f0, .string u.f1, .slice A2 u.f2.length c2] ∧ u.f2.length ≤ c2 ∧ Kd.C k25 W A2 u.f2.length u.f2 := by
  obtain ⟨cs, rfl, hsz⟩ := Go.WideShapes.okWide_struct Tryz.underlying40 hv
  obtain ⟨n, hn⟩ := h
  obtain ⟨u, hu⟩ := opens25 H enc W n _ _ hn
  obtain ⟨A2, c2, e, hle, hC⟩ := k40_open hu
  refine ⟨u, A2, c2, ?_, hle, hC⟩
  have e2 : cs.toList = [.int .u64 u.f0, .string u.f1, .slice A2 u.f2.length c2] := by simpa [Value.cells] using e
  rw [← Array.toArray_toList (xs := cs), e2]
end Go.Proofs.YtgpmkbmobdbdoaaGreatDoor.Q

-- LawBegins
namespace Go.Proofs.YtgpmkbmobdbdoaaGreatDoor.partsBegins
open Go.ChangeShapes Go.WideShapes Go.ChangeAt Go.RowKit
open Go.ChangeMaps (open_string shut_string)
set_option linter.unusedVariables false

set_option maxRecDepth 100000 in
theorem lifted (os : Os) (started : os.Started) (H : Type) (enc : TypeId × Value → H) :
    ReturnsInHanded {} Tryz.checked os 4 .any (fun w args => (Rows.partsBeginsSpec.pre enc Tryz.prog Tryz.f4 [] false w args ∧ laidMetH Tryz.prog Q.laid3 w) ∧ sizedMet enc Tryz.prog Tryz.f4 (OpenSpec.ofChange Rows.partsBeginsSpec) false w args)
      (Rows.partsBeginsSpec.post enc Tryz.prog Tryz.f4 false true false false) := by
  refine returnsInHanded_of_change_and (C := Tryz.checked) (X := fun w _ => laidMetH Tryz.prog Q.laid3 w) (fun _ _ _ hh h => h.of_heap hh) Q.own started (by kernel_rfl) Tryz.func4
    (ChangeSpec.witness_shaped (enc := enc) (C := Tryz.checked) (os := os) (X := fun w _ => laidMetH Tryz.prog Q.laid3 w) false (World.doorLaid Tryz.prog 400 os) #[.slice none 0 0, .slice none 0 0, .agg #[.int .u64 0, .string ByteArray.empty, .slice none 0 0]] 8 rfl (World.shaped_of_RefB (by kernel_rfl) (by kernel_rfl)) (by kernel_rfl) (by kernel_rfl) (by kernel_rfl) (Q.door_met os _)) ?_
  intro W base args ds gs before hval0 hW _ _ hL _
  have hval : ∀ (j : Nat) t v, Tryz.f4.params[j]? = some t → args[j]? = some v → Value.okWide Tryz.prog W .any base t v := hval0
  have hW' := hW
  obtain ⟨p, q, hA0, hV, rfl, hfz, hnd⟩ := hW
  have hA : DataW.TrodAll enc Tryz.prog W 0 (fun _ => true) true Tryz.f4.params.toList args.toList ds p := hA0
  rw [Tryz.params4] at hA hval
  obtain ⟨v0, vs0, d0, ds0, p0, q0, hargs, rfl, rfl, h0, r0⟩ := trodAll_cons hA
  obtain ⟨v1, vs1, d1, ds1, p1, q1, rfl, rfl, rfl, h1, r1⟩ := trodAll_cons r0
  obtain ⟨v2, vs2, d2, ds2, p2, q2, rfl, rfl, rfl, h2, r2⟩ := trodAll_cons r1
  obtain ⟨rfl, rfl, rfl⟩ := trodAll_nil r2
  obtain rfl : args = #[v0, v1, v2] := by cases args; simp_all
  obtain ⟨rfl, rfl⟩ := trodVars_none hV
  have k0 := h0
  have lt0 : ∀ x ∈ p0, x.block < W.heap.size := by obtain ⟨m, hm⟩ := k0; exact DataW.trod_lt m _ _ _ hm
  have k1 := h1
  have lt1 : ∀ x ∈ p1, x.block < W.heap.size := by obtain ⟨m, hm⟩ := k1; exact DataW.trod_lt m _ _ _ hm
  have k2 := h2
  have lt2 : ∀ x ∈ p2, x.block < W.heap.size := by obtain ⟨m, hm⟩ := k2; exact DataW.trod_lt m _ _ _ hm
  obtain ⟨l_0, A_0, c_0, rfl, hl_0, hC_0⟩ := Q.open_uploads (hval 0 22 v0 rfl rfl) h0
  obtain ⟨l_1, A_1, c_1, rfl, hl_1, hC_1⟩ := Q.open_uploads (hval 1 22 v1 rfl rfl) h1
  obtain ⟨u_2, A_2, c_2, rfl, hle_2, hC_2⟩ := Q.open_upload (hval 2 40 v2 rfl rfl) h2
  clear hA0 hval0
  refine (Q.begins.walk A_0 A_1 c_0 c_1 l_0 l_1 u_2 A_2 c_2 W hC_0 hl_0 hC_1 hl_1).mono fun e W' ⟨he, bel⟩ => ?_
  subst he
  exact ⟨_, rfl, _, _, _, [], _, [], hW', trodAll_mk1 (shut_bool Tryz.underlying4 _), (trodAll_cons_mk (Below.trod Q.laidOut (by kernel_rfl) (of_decide_eq_true (by kernel_rfl)) k0 bel lt0) (trodAll_cons_mk (Below.trod Q.laidOut (by kernel_rfl) (of_decide_eq_true (by kernel_rfl)) k1 bel lt1) (trodAll_cons_mk (Below.trod Q.laidOut (by kernel_rfl) (of_decide_eq_true (by kernel_rfl)) k2 bel lt2) trodAll_mk0))), rfl, bel.frame _, fun h => by cases h⟩
theorem over : Rows.partsBeginsRow.holds Tryz.pinned (OpenSpec.ofChange Rows.partsBeginsSpec) :=
  OpenClaim.holds_of_wide 4 Tryz.f4 rfl rfl rfl rfl rfl rfl rfl ⟨rfl, rfl, rfl, rfl, rfl⟩ rfl rfl rfl rfl rfl (by kernel_rfl) Tryz.func4 (by kernel_rfl)
    (of_decide_eq_true (by kernel_rfl)) (by unfold Func.isWrapper; first | (rw [if_pos (by decide +kernel)]; kernel_rfl) | (rw [if_neg (by decide +kernel)]; exact ⟨rfl, rfl⟩))
    (fun os started H enc _ => lifted os started H enc)
end Go.Proofs.YtgpmkbmobdbdoaaGreatDoor.partsBegins
namespace Go.Proofs.YtgpmkbmobdbdoaaGreatDoor
open Go
/-- The row. -/
theorem partsBegins_holds : Rows.PartsBeginsSaid := partsBegins.over
/-- The tied card. -/
theorem partsBegins_card : Rows.PartsBeginsCardSaid :=
  Claim7.holds_tied_plain_at .later [] [.data, .data, .data] true (true, "9d1f5ff4b9913068176fbba7bc82e56eba8f2a0ded052c962934c76ab2a3e7e8") false
    partsBegins_holds (fun _ h => by cases h) (by kernel_rfl) (fun _ h => by cases h) partsBegins_row_tie rfl ⟨rfl, rfl⟩ (by kernel_rfl) rfl
    (fun f fn hf hfn => by
      obtain rfl : f = 4 := Option.some.inj ((show Tryz.prog.funcNamed "cellarer/cellarerlaw08.PartsBegins" = some 4 by kernel_rfl).symm.trans hf) |>.symm
      obtain rfl : fn = Tryz.f4 := (Option.some.inj (Tryz.func4.symm.trans hfn)).symm
      exact ⟨by kernel_rfl, fun j t ht => by
        rw [Tryz.params4] at ht
        rcases j with _ | _ | _ | j
        · obtain rfl : t = 22 := by simpa using ht.symm
          exact (show Tryz.prog.wantsStandIn 22 = false by kernel_rfl)
        · obtain rfl : t = 22 := by simpa using ht.symm
          exact (show Tryz.prog.wantsStandIn 22 = false by kernel_rfl)
        · obtain rfl : t = 40 := by simpa using ht.symm
          exact (show Tryz.prog.wantsStandIn 40 = false by kernel_rfl)
        · simp at ht⟩)
    (by kernel_rfl)
#print axioms partsBegins_card
end Go.Proofs.YtgpmkbmobdbdoaaGreatDoor
