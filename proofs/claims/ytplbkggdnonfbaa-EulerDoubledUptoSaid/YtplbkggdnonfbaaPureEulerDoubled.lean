/- A graph whose edges hang together, each edge taken twice, once each way, always has a tour; a directed tour is an undirected one too: at every graph that holds at most 1048576 values. -/
import Derived.Test.YtplbkggdnonfbaaQ14
import Derived.Test.YtplbkggdnonfbaaQ28
import Derived.KernelRfl
import Derived.Test.YtplbkggdnonfbaaEven
namespace Go.Proofs.Ytplbkggdnonfbaa.Pure
open Go.RowKit Go.Proofs.Ytplbkggdnonfbaa.Q Go.Proofs.Ytplbkggdnonfbaa.G Go.Proofs.YtplbkggdnonfbaaW.PrintWords Go.Proofs.YtplbkggdnonfbaaW.PrintLast
set_option linter.unusedVariables false

theorem awake_f : Evl (fun k => compasslaw09_awake.f k) true := Evl.mono (k0 := 100) (by kernel_rfl) (fun k => compasslaw09_awake.mono k)

theorem map_rng (E : List S45) : (rng E.length).map (fun i => rd_T45 E i) = E := by
  refine List.ext_getElem (by rw [List.length_map, len_rng]) fun i h1 h2 => ?_
  rw [List.getElem_map]
  unfold rng
  rw [List.getElem_map, List.getElem_range]
  unfold rd_T45
  show E.getD ((i : Int)).toNat z45 = _
  rw [Int.toNat_natCast, List.getD_eq_getElem?_getD, List.getElem?_eq_getElem h2]; rfl
theorem dout_eq (E : List S45) (v : Int) : dout E v = E.countP fun e => decide (e.f0 = v) := by
  conv => rhs; rw [← map_rng E, List.countP_map]
  rfl
theorem din_eq (E : List S45) (v : Int) : din E v = E.countP fun e => decide (e.f1 = v) := by
  conv => rhs; rw [← map_rng E, List.countP_map]
  rfl
theorem both_deg (E : List S45) (v : Int) : dout (E ++ E.map sw) v = din (E ++ E.map sw) v := by
  rw [dout_eq, din_eq, List.countP_append, List.countP_append, List.countP_map, List.countP_map, Nat.add_comm]
  rfl
theorem never (E : List S45) (d : Bool) (v : Int) : ¬ Odd (E ++ E.map sw) d v := by
  have := both_deg E v
  unfold Odd
  cases d
  · rw [if_neg (by decide)]; omega
  · rw [if_pos rfl]; omega

theorem tail_f (n : Int) (E : List S45) : Evl (fun k => (euler_Tour.f k n (E ++ E.map sw) true).bind fun bt473 => ((euler_Tour.f k n (E ++ E.map sw) false).bind fun bt480 => (if bt473.2.2.2 = bt480.2.2.2 then (if bt473.2.2.2 = 0 then (if n = 0 then (some true) else ((euler_Covers.f k n (E ++ E.map sw) bt473.1 bt473.2.1 true).bind fun t487 => (if t487 = true then ((euler_Covers.f k n (E ++ E.map sw) bt473.1 bt473.2.1 false).bind fun t488 => (if t488 = true then ((euler_Covers.f k n (E ++ E.map sw) bt480.1 bt480.2.1 false).bind fun t489 => (some t489)) else (some false))) else (some false)))) else ((compassref03_Check.f k n (E ++ E.map sw)).bind fun bt490 => (if bt473.2.2.2 = 91 then (some true) else (some (bt473.2.2.2 == bt490.1))))) else (some false)))) true := by
  have nv := never E
  obtain ⟨c0, a0, -, CC, -⟩ := check_f n (E ++ E.map sw)
  generalize E ++ E.map sw = D at nv CC ⊢
  obtain ⟨s, l, v, c, T, h⟩ := tour_f n D true
  obtain ⟨s', l', v', c', T', h'⟩ := tour_f n D false
  refine Evl.bind T (Evl.bind T' ?_)
  have ec : c = c' := by
    rcases h with ⟨nR, -, -, -, -, -, -, a, C⟩ | ⟨hR, -, -, -, v0, v1, ov, -⟩ | ⟨hR, e, -, -, -, -, -, -, p, P, p2, -⟩ | ⟨hR, e, -, -, -, p, P, p2, -⟩
    · rcases h' with ⟨nR', -, -, -, -, -, -, a', C'⟩ | ⟨hR', -⟩ | ⟨hR', -⟩ | ⟨hR', -⟩
      · exact congrArg Prod.fst (C.eq C')
      · exact absurd hR' nR
      · exact absurd hR' nR
      · exact absurd hR' nR
    · exact absurd ov (nv _ _)
    · rcases h' with ⟨nR', -⟩ | ⟨-, -, -, -, -, -, ov', -⟩ | ⟨-, e', -⟩ | ⟨-, e', -, -, -, p', P', p2', -⟩
      · exact absurd hR nR'
      · exact absurd ov' (nv _ _)
      · rw [e, e']
      · rw [P.eq P', p2'] at p2; simp at p2
    · rcases h' with ⟨nR', -⟩ | ⟨-, -, -, -, -, -, ov', -⟩ | ⟨-, e', -, -, -, -, -, -, p', P', p2', -⟩ | ⟨-, e', -⟩
      · exact absurd hR nR'
      · exact absurd ov' (nv _ _)
      · rw [P.eq P', p2'] at p2; simp at p2
      · rw [e, e']
  subst ec
  by_cases hc : c = 0
  · subst hc
    by_cases hn : n = 0
    · exact Evl.pure.congr fun k => by rw [if_pos rfl, if_pos rfl, if_pos hn]
    · have g : 0 < n → Go.Proofs.Ytplbkggdnonfbaa.G.Good n D true s l := by
        rcases h with ⟨-, e, -⟩ | ⟨-, e, -⟩ | ⟨-, e, -⟩ | ⟨-, -, -, g, -⟩
        · exact absurd rfl e
        · omega
        · omega
        · exact g
      have g' : Right n D ∧ (0 < n → Go.Proofs.Ytplbkggdnonfbaa.G.Good n D false s' l') := by
        rcases h' with ⟨-, e, -⟩ | ⟨-, e, -⟩ | ⟨-, e, -⟩ | ⟨hR, -, -, g, -⟩
        · exact absurd rfl e
        · omega
        · omega
        · exact ⟨hR, g⟩
      have hp : 0 < n := by have := g'.1.n0; omega
      have A := covers_true n D g'.1 true true s l (g hp) id
      have B := covers_true n D g'.1 false true s l (g hp) (fun h => by cases h)
      have C := covers_true n D g'.1 false false s' l' (g'.2 hp) id
      refine (Evl.bind A (h := fun k t487 => (if t487 = true then ((euler_Covers.f k n D s l false).bind fun t488 => (if t488 = true then ((euler_Covers.f k n D s' l' false).bind fun t489 => (some t489)) else (some false))) else (some false))) ?_).congr fun k => by rw [if_pos rfl, if_pos rfl, if_neg hn]
      refine (Evl.bind B (h := fun k t488 => (if t488 = true then ((euler_Covers.f k n D s' l' false).bind fun t489 => (some t489)) else (some false))) ?_).congr fun k => by rw [if_pos rfl]
      exact (Evl.bind C (h := fun k t489 => some t489) Evl.pure).congr fun k => by rw [if_pos rfl]
  · refine (Evl.bind CC (h := fun k bt490 => (if c = 91 then (some true) else (some (c == bt490.1)))) (r := true) ?_).congr fun k => by rw [if_pos rfl, if_neg hc]
    by_cases h91 : c = 91
    · exact Evl.pure.congr fun k => by rw [if_pos h91]
    · refine Evl.pure.congr fun k => ?_
      rw [if_neg h91]
      have : c = c0 := by
        rcases h with ⟨-, -, -, -, -, -, -, a, C⟩ | ⟨-, -, -, -, -, -, ov, -⟩ | ⟨-, e, -⟩ | ⟨-, e, -⟩
        · exact congrArg Prod.fst (C.eq CC)
        · exact absurd ov (nv _ _)
        · exact absurd e h91
        · exact absurd e hc
      rw [this]; simp

theorem EulerDoubled (n : Int) (E : List S45) (hE : E.length ≤ 1048576) : ∃ k, compasslaw09_EulerDoubled.f k n E = some true := by
  have loop : ∀ (q i : Nat), i + q = E.length → Evl (fun k => compasslaw09_EulerDoubled.l0 k E (E.length : Int) (i : Int) n E n (E ++ (E.take i).map sw)) true := by
    intro q
    induction q with
    | zero =>
      intro i hi
      obtain rfl : i = E.length := by omega
      refine (tail_f n E).step fun k => ?_
      rw [compasslaw09_EulerDoubled.l0, if_neg (by omega), List.take_length]
    | succ q ih =>
      intro i hi
      have hlt : i < E.length := by omega
      have e : E ++ (E.take (i + 1)).map sw = E ++ (E.take i).map sw ++ [(⟨(rd_T45 E (i : Int)).f1, (rd_T45 E (i : Int)).f0, (rd_T45 E (i : Int)).f2, (rd_T45 E (i : Int)).f3⟩ : S45)] := by
        rw [List.take_add_one, List.map_append, List.getElem?_eq_getElem hlt, List.append_assoc]
        unfold rd_T45
        rw [Int.toNat_natCast, List.getD_eq_getElem?_getD, List.getElem?_eq_getElem hlt]
        rfl
      refine (ih (i + 1) (by omega)).step fun k => ?_
      rw [compasslaw09_EulerDoubled.l0, if_pos (by omega), if_pos (by omega), if_pos (by omega), if_pos (by rw [List.length_append, List.length_map, List.length_take]; omega), w1 (by omega) (by omega), e]; rfl
  refine Evl.at (r := true) (g := fun k => compasslaw09_EulerDoubled.f k n E) ?_
  refine (Evl.bind awake_f (h := fun k t460 => (if t460 = true then ((some (([] : List (S45)) : List (S45))).bind fun y461 => (if y461.length + E.length < 4398046511104 then (compasslaw09_EulerDoubled.l0 k E (E.length : Int) 0 n E n (y461 ++ E)) else (none))) else (some false))) ?_).congr fun k => rfl
  refine Evl.congr (loop E.length 0 (by omega)) fun k => ?_
  rw [if_pos rfl, Option.bind_some, if_pos (by rw [List.length_nil]; omega), List.take_zero, List.map_nil, List.append_nil, List.nil_append]; rfl
end Go.Proofs.Ytplbkggdnonfbaa.Pure
