/- Contracts of functions of the given program, and what they come to, for any arguments. No condition beyond each theorem's own premises. -/
import Derived.Test.YtkphinfijppkeaaXHushTellsM9
namespace Go.Proofs.Ytkphinfijppkeaa.G
open Go.RowKit Go.Proofs.YtkphinfijppkeaaW.PrintWords Go.Proofs.YtkphinfijppkeaaW.PrintLast Go.Proofs.YtkphinfijppkeaaW.PrintMore
attribute [local go_sem] max2_int min2_int max_two min_two max_three min_three max_four min_four
section
variable {P : Program} {ops : Array Oper} {rest : List Oper} {o : Oper} {a : Act} {Q : Exit → Act → World → Prop} {w0 W : World} {bs : List Fr.Blk}
theorem run_clear3 {g off n c : Nat} {cur : Array Value} {te : TypeId} (t e ty : TypeId) (z : Value) (ht : P.underlying t = some (.slice e)) (hv : (zeroValue e).run P W = .ok z W) (hz : z.cells.size = 3) (h1 : ∀ u ∈ z.cells.toList, u.oneCell' = true) (hn : 0 < n) (hh : W.heap[g]? = some (.cells cur te (0, 0))) (hfit : off + n * 3 ≤ cur.size) :
    ∃ zs : List Value, zs.length = n * 3 ∧ (Builtin.clear_ #[t] ty #[.slice (some ⟨g, off, none⟩) n c]).run P W = .ok (.tuple #[]) (W.setCells g off zs) := by
  have hl : (Builtin.zeroCells z.cells n).toList.length = n * 3 := by simp [Builtin.zeroCells, hz]
  have hone : ∀ u ∈ (Builtin.zeroCells z.cells n).toList, u.oneCell' = true := by
    intro u hu
    simp only [Builtin.zeroCells, Array.toList_map, List.mem_map] at hu
    obtain ⟨i, _, rfl⟩ := hu
    rw [getElem!_pos z.cells (i % z.cells.size) (Nat.mod_lt _ (by omega))]
    exact h1 _ (by simp)
  refine ⟨_, hl, ?_⟩
  have hst := run_storeCells_cells (P := P) g off (Builtin.zeroCells z.cells n).toList 0 W (fun j hj => by rw [cell_of_row W g _ cur te (0, 0) hh]; simp; omega) (fun j _ => blk_frozen hh _) hone
  simp only [Nat.add_zero] at hst
  obtain ⟨m, rfl⟩ : ∃ m, n = m + 1 := ⟨n - 1, by omega⟩
  simp [Builtin.clear_, run_underlying ht, hv, hst]
theorem fr_clear {g off n c : Nat} {cs : List Value} {ad : Addr} (x : Operand) (t e : TypeId) (z : Value) (hF : Fr.Frame w0 W ((g, cs, 25) :: bs) []) (hgd : o.guard = none) (ho : o.op = .call { callee := .builtin .clear, args := #[x], argTypes := #[t] })
    (ht : P.underlying t = some (.slice e)) (hv : (zeroValue e).run P W = .ok z W) (hz : z.cells.size = 3) (h1 : ∀ u ∈ z.cells.toList, u.oneCell' = true) (hn : 0 < n) (hx : a.eval x = .slice (some ad) n c) (had : ad = ⟨g, off, none⟩) (hfit : off + n * 3 ≤ cs.length)
    (h : ∀ zs w1, zs.length = n * 3 → Fr.Frame w0 w1 ((g, Fr.patch cs off zs, 25) :: bs) [] → wpList P ops Q rest (a.put o.dst (.tuple #[])) w1) : wpList P ops Q (o :: rest) a W := by
  subst had
  obtain ⟨zs, hl, hrun⟩ := run_clear3 (P := P) (W := W) (c := c) t e o.type z ht hv hz h1 hn (hF.blk _ List.mem_cons_self).2 (by simpa using hfit)
  refine wpList_plain hgd fun K hK => ?_
  unfold Oper.wp execOp
  simp only [ho, resolve, invoke, builtin, Sem.run_bind, Sem.run_pure, Result.andThen_ok, List.map_toArray, List.map_cons, List.map_nil, hx, hrun]
  exact hK _ _ (h zs _ hl (hF.put (Fr.Spot.here _ _) off zs (by omega)))
end
theorem flat3_cut {rest zs : List Value} {rs : List (List Value)} {i : Nat} (h : ∀ r ∈ rs, Row3 r) (hi : i ≤ rs.length) (hz : zs.length = (rs.length - i) * 3) : Fr.patch (rs.flatten ++ rest) (i * 3) zs = (rs.take i).flatten ++ (zs ++ rest) := by
  have hl := flat3_len (fun r hr => h r (List.mem_of_mem_take hr) : ∀ r ∈ rs.take i, Row3 r)
  rw [List.length_take, Nat.min_eq_left hi] at hl
  have hl2 := flat3_len h
  have e : rs.flatten = (rs.take i).flatten ++ (rs.drop i).flatten := by rw [← List.flatten_append, List.take_append_drop]
  unfold Fr.patch
  rw [show i * 3 + zs.length = rs.flatten.length by rw [hl2, hz]; omega, List.drop_left]
  rw [e, List.append_assoc _ zs rest, List.append_assoc _ _ rest, ← hl, List.take_left]
theorem zero_run {P : Program} {e sz bytes : Nat} {z : Value} (hinfo : (P.info? e).map (fun i => (i.zero, i.size, i.bytes)) = some (some z, sz, bytes)) (w : World) : (zeroValue e).run P w = .ok z w := by
  obtain ⟨i, hi, h⟩ := Option.map_eq_some_iff.1 hinfo
  have hz : i.zero = some z := (Prod.mk.inj h).1
  simp [zeroValue, typeInfo, hi, hz]
theorem zero25 (w : World) : (zeroValue 25).run Try.prog w = .ok (.agg #[.int .i64 0, .int .i64 0, .slice none 0 0]) w := zero_run (sz := 3) (bytes := 40) (by kernel_rfl) w
set_option maxHeartbeats 8000000 in
set_option maxRecDepth 100000 in
theorem delete_some (now : Int) (gn tn gr cap : Nat) (z : RowZ) (i0 : Nat) (ad : Addr) (rest : List Value) (w0 W : World) (bs : List Fr.Blk) (hF0 : Fr.Frame w0 W ((gr, (z.map (·.2)).flatten ++ rest, 25) :: bs) []) (hga : ∀ m, ad.add m = ⟨gr, m, none⟩) (hgn : (gn, [.int .i64 now], tn) ∈ bs)
    (hK : ∀ p ∈ z, k25.K w0 p.1 p.2) (hD0 : DI now z i0 (i0 + 1) (z.map (·.2))) (hi0 : i0 < z.length) (hzc : z.length ≤ cap) (hcm : cap ≤ 9223372036854775807) (hfl : ((z.map (·.2)).flatten ++ rest).length = cap * 3)
    (hI : Calls Try.prog 92 #[.slice (some ad) z.length cap, .func (.func 58) #[] #[.pointer (some ⟨gn, 0, none⟩)]] W fun e w' => e = .returned (.int .i64 (i0 : Int)) ∧ Below W.heap.size W w') :
    Calls Try.prog 56 #[.slice (some ad) z.length cap, .func (.func 58) #[] #[.pointer (some ⟨gn, 0, none⟩)]] W fun e W' => ∃ rest', e = .returned (.slice (some ad) (keepZ now z).length cap) ∧ Fr.Frame w0 W' ((gr, ((keepZ now z).map (·.2)).flatten ++ rest', 25) :: bs) [] ∧ (((keepZ now z).map (·.2)).flatten ++ rest').length = cap * 3 := by
  have hF := Aside0.mk hF0
  have HC : True := trivial
  have HGA := Aside0.mk hga
  have HGN := Aside0.mk hgn
  have HK := Aside0.mk hK
  have HD0 := Aside0.mk hD0
  have HI := Aside0.mk hI
  have HFL := Aside0.mk hfl
  have hi1 : ((i0 : Int) == -1) = false := by rw [beq_eq_false_iff_ne]; omega
  clear hF0 hga hgn hK hD0 hI hfl
  go_enter Try.func56, Try.ntmps56
  go_wp2_with (go_at_call 92; (with_reducible refine HI.out.mono ?_); rintro e W ⟨rfl, hb⟩; have hF1 := hF.out.call hb; clear hF hb; have hF := Aside0.mk hF1; clear hF1)
  go_loopg [5, 6] z.length (fun kq v5 v6 w' => ∃ (i j : Nat) (rs : List (List Value)), j ≤ z.length ∧ z.length - j ≤ kq ∧ v5 = .int .i64 i ∧ v6 = .int .i64 j ∧ Aside0 (DI now z i j rs ∧ (rs.flatten ++ rest).length = cap * 3) ∧ Aside0 (Fr.Frame w0 w' ((gr, rs.flatten ++ rest, 25) :: bs) []))
  case atStart => exact ⟨i0, i0 + 1, z.map (·.2), by omega, by omega, rfl, by go_num, ⟨HD0.out, HFL.out⟩, hF⟩
  case round =>
    clear hF HC HD0 HFL
    obtain ⟨i, j, rs, hj, hg, rfl, rfl, HD, hF⟩ := hrel
    have HC : True := trivial
    have hij := HD.out.1.lt
    by_cases hlt : j < z.length
    · have hltI : (j : Int) < (z.length : Int) := by omega
      have hltJ : (i : Int) < (z.length : Int) := by omega
      obtain ⟨A2, c2, hx, l2, g2⟩ := k25_open (HK.out z[j] (List.getElem_mem hlt))
      have hrow := HD.out.1.row hlt
      rw [hx] at hrow
      obtain ⟨a0, a1, a2⟩ := row3_cells hF.out HGA.out HD.out.1.all hrow
      have HL2 := Aside0.mk l2
      have HG2 := Aside0.mk g2
      have HX := Aside0.mk hx
      clear l2 g2 hx hrow
      cases ho : overP now z[j].1 with
      | true =>
        have HO := Aside0.mk ho
        clear ho
        go_wp2_with (first | ((with_reducible refine gate_store rfl ?_); apply Fr.fr_store hF.out rfl rfl rfl; (case hp => rfl); (case hx => first | (go_simp; rfl) | rfl); (case hu => (simp only [Value.cells]; rfl)); (case hs => (repeat (first | exact Fr.Spot.here _ _ | apply Fr.Spot.there))); (case ht => kernel_rfl); (case h1 => simp [Value.oneCell']); (case hfit => simp); intro W hF1; simp only [Fr.patch, List.take_zero, List.nil_append, List.drop, List.append_nil, List.take, List.cons_append, List.length_cons, List.length_nil, Nat.reduceAdd] at hF1; have HC1 := hF1.cells; simp only [Fr.Cells, List.length_cons, List.length_nil, Nat.reduceAdd, and_true] at HC1; clear hF HC; have HC := HC1; have hF := Aside0.mk hF1; clear hF1 HC1) | ((first | (with_reducible refine Fr.gate_alloc rfl ?_) | (with_reducible refine Fr.gate_box rfl ?_)); apply Fr.fr_box hF.out rfl; (case hrun => first | (go_simp; done) | (go_simp; rfl)); intro g W hF1; have HC1 := hF1.cells; simp only [Fr.Cells, List.length_cons, List.length_nil, Nat.reduceAdd, and_true] at HC1; clear hF HC; have HC := HC1; have hF := Aside0.mk hF1; clear hF1 HC1) | (go_at_call 58; refine (over_pred now gn _ (by have := blk_cell (hF.out.blk _ (List.mem_cons_of_mem _ (List.mem_cons_of_mem _ HGN.out))).2 0; simpa using this) z[j].1 A2 c2 _ trivial (Below.refl _ _) HL2.out (Kd.C_below HG2.out hF.out.below)).mono ?_; rintro e W ⟨rfl, hb⟩; simp only [HO.out]; have hF1 := hF.out.call hb; clear hb; have HC1 := hF1.cells; simp only [Fr.Cells, List.length_cons, List.length_nil, Nat.reduceAdd, and_true] at HC1; clear hF HC; have HC := HC1; have hF := Aside0.mk hF1; clear hF1 HC1))
        go_roundg (z.length - (j + 1))
        case measure => omega
        case rel => exact ⟨i, j + 1, rs, by omega, by omega, rfl, by go_num, ⟨HD.out.1.skip hlt HO.out, HD.out.2⟩, ⟨hF.out.drop⟩⟩
      | false =>
        have HO := Aside0.mk ho
        clear ho
        have HPT := Aside0.mk (flat3_patch (rest := rest) (x := z[j].2) (by rw [HX.out]; rfl) HD.out.1.all (show i < rs.length by rw [HD.out.1.len]; omega))
        have HR3 := Aside0.mk (show Row3 z[j].2 by rw [HX.out]; exact ⟨rfl, by simp [Value.oneCell']⟩)
        have HFT := Aside0.mk (show i * 3 + [Value.int .i64 z[j].1.f0, .int .i64 z[j].1.f1, .slice A2 z[j].1.f2.length c2].length ≤ (rs.flatten ++ rest).length by
          rw [List.length_append, flat3_len HD.out.1.all, HD.out.1.len]; simp only [List.length_cons, List.length_nil]; omega)
        have HLN := Aside0.mk (show ((rs.set i z[j].2).flatten ++ rest).length = cap * 3 by
          have h := HD.out.2
          rw [List.length_append, flat3_len HD.out.1.all] at h
          rw [List.length_append, flat3_len (HD.out.1.move hlt HO.out HR3.out).all, List.length_set]
          exact h)
        rw [HX.out] at HPT HLN
        go_wp2_with (first | ((with_reducible refine gate_store rfl ?_); apply Fr.fr_store hF.out rfl rfl rfl; (case hp => rfl); (case hx => first | (go_simp; rfl) | rfl); (case hu => (simp only [Value.cells]; rfl)); (case hs => (repeat (first | exact Fr.Spot.here _ _ | apply Fr.Spot.there))); (case ht => kernel_rfl); (case h1 => simp [Value.oneCell']); (case hfit => simp); intro W hF1; simp only [Fr.patch, List.take_zero, List.nil_append, List.drop, List.append_nil, List.take, List.cons_append, List.length_cons, List.length_nil, Nat.reduceAdd] at hF1; have HC1 := hF1.cells; simp only [Fr.Cells, List.length_cons, List.length_nil, Nat.reduceAdd, and_true] at HC1; clear hF HC; have HC := HC1; have hF := Aside0.mk hF1; clear hF1 HC1) | ((first | (with_reducible refine Fr.gate_alloc rfl ?_) | (with_reducible refine Fr.gate_box rfl ?_)); apply Fr.fr_box hF.out rfl; (case hrun => first | (go_simp; done) | (go_simp; rfl)); intro g W hF1; have HC1 := hF1.cells; simp only [Fr.Cells, List.length_cons, List.length_nil, Nat.reduceAdd, and_true] at HC1; clear hF HC; have HC := HC1; have hF := Aside0.mk hF1; clear hF1 HC1) | (go_at_call 58; refine (over_pred now gn _ (by have := blk_cell (hF.out.blk _ (List.mem_cons_of_mem _ (List.mem_cons_of_mem _ HGN.out))).2 0; simpa using this) z[j].1 A2 c2 _ trivial (Below.refl _ _) HL2.out (Kd.C_below HG2.out hF.out.below)).mono ?_; rintro e W ⟨rfl, hb⟩; simp only [HO.out]; have hF1 := hF.out.call hb; clear hb; have HC1 := hF1.cells; simp only [Fr.Cells, List.length_cons, List.length_nil, Nat.reduceAdd, and_true] at HC1; clear hF HC; have HC := HC1; have hF := Aside0.mk hF1; clear hF1 HC1) | ((with_reducible refine gate_store rfl ?_); refine Fr.fr_store hF.out (g := gr) (off := i * 3) (tg := 25) (u := .agg #[.int .i64 z[j].1.f0, .int .i64 z[j].1.f1, .slice A2 z[j].1.f2.length c2]) (seg := [.int .i64 z[j].1.f0, .int .i64 z[j].1.f1, .slice A2 z[j].1.f2.length c2]) rfl rfl rfl (by rw [← HGA.out]; first | rfl | (go_simp; done)) (by first | rfl | (go_simp; done)) (by simp only [Value.cells]) (by kernel_rfl) (by simp [Value.oneCell']) (Fr.Spot.there _ (Fr.Spot.here _ _)) HFT.out ?_; intro W hF1; rw [HPT.out] at hF1; clear hF HC; have HC : True := trivial; have hF := Aside0.mk hF1; clear hF1))
        go_roundg (z.length - (j + 1))
        case measure => omega
        case rel => exact ⟨i + 1, j + 1, _, by omega, by omega, by go_num, by go_num, ⟨HX.out ▸ HD.out.1.move hlt HO.out HR3.out, HLN.out⟩, ⟨hF.out.drop⟩⟩
    · obtain rfl : j = z.length := by omega
      have HDN := Aside0.mk (HD.out.1.done (Nat.le_refl _))
      have hi1 : i ≤ z.length := by omega
      have hi2 : (i : Int) ≤ (z.length : Int) := by omega
      have hi3 : (i : Int) ≤ (cap : Int) := by omega
      have hi4 : (z.length : Int) ≤ (cap : Int) := by omega
      have hi5 : ¬ cap - i = 0 := by omega
      have hi6 : ¬ cap = i := by omega
      have hi7 : 0 < z.length - i := by omega
      have hi8 : i ≤ cap := by omega
      have HCU := Aside0.mk (fun zs hz => flat3_cut (rest := rest) (zs := zs) HD.out.1.all (show i ≤ rs.length by rw [HD.out.1.len]; exact hi1) (by rw [HD.out.1.len]; exact hz))
      have HLE := Aside0.mk (fun (zs : List Value) (hz : zs.length = (z.length - i) * 3) => show ((rs.take i).flatten ++ (zs ++ rest)).length = cap * 3 by
        have h := HD.out.2
        rw [List.length_append, flat3_len HD.out.1.all, HD.out.1.len] at h
        rw [List.length_append, List.length_append, flat3_len (fun r hr => HD.out.1.all r (List.mem_of_mem_take hr) : ∀ r ∈ rs.take i, Row3 r), List.length_take, HD.out.1.len, Nat.min_eq_left hi1, hz]
        omega)
      have HFT := Aside0.mk (show i * 3 + (z.length - i) * 3 ≤ (rs.flatten ++ rest).length by
        rw [List.length_append, flat3_len HD.out.1.all, HD.out.1.len]; omega)
      rw [HDN.out.1] at HCU HLE
      go_wp2_with ((with_reducible refine gate_builtin (b := .clear) (xs := #[.tmp 38]) rfl ?_); refine fr_clear (.tmp 38) 22 25 (.agg #[.int .i64 0, .int .i64 0, .slice none 0 0]) hF.out (off := i * 3) (n := z.length - i) (c := cap - i) (ad := ad.add (i * 3)) rfl rfl Try.underlying22 (zero25 _) rfl (by simp [Value.cells, Value.oneCell']) hi7 (by first | rfl | (go_simp; done) | (go_simp; rfl)) (HGA.out _) HFT.out ?_; intro zs W hzs hF1; rw [HCU.out zs hzs] at hF1; have HLZ := Aside0.mk (HLE.out zs hzs); clear hF hzs; have hF := Aside0.mk hF1; clear hF1)
      go_ret
      exact ⟨zs ++ rest, by rw [← HDN.out.2]; rfl, hF.out, HLZ.out⟩
end Go.Proofs.Ytkphinfijppkeaa.G
