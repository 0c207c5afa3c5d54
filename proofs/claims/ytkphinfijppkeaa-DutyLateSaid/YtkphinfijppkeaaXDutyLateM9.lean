/- Contracts of functions of the given program, and what they come to, for any arguments. No condition beyond each theorem's own premises. -/
import Derived.Test.YtkphinfijppkeaaXDutyLateM7
import Derived.Test.YtkphinfijppkeaaXDutyLateM8
import Derived.Test.YtkphinfijppkeaaXDutyLateM5
namespace Go.Proofs.Ytkphinfijppkeaa.G
open Go.RowKit Go.Proofs.YtkphinfijppkeaaW.PrintWords Go.Proofs.YtkphinfijppkeaaW.PrintLast Go.Proofs.YtkphinfijppkeaaW.PrintMore
attribute [local go_sem] max2_int min2_int max_two min_two max_three min_three max_four min_four
set_option linter.unusedVariables false
set_option linter.unusedSimpArgs false
set_option maxHeartbeats 2000000 in
set_option maxRecDepth 100000 in
theorem cut50_calls (A : Option Addr) (c : Nat) (l : List S92) (ro pl tr du st : Int) (w : World) (hl : l.length ≤ c) (hm : l.length ≤ 9223372036854775807) : Calls Try.prog 50 #[.agg #[.slice A l.length c, .int .i64 ro, .int .i64 pl, .int .i64 tr, .int .i64 du, .int .i64 st]] w fun e w' => e = .returned (.agg #[.slice A (l.take 5).length c, .int .i64 ro, .int .i64 pl, .int .i64 tr, .int .i64 du, .int .i64 st]) ∧ Below w.heap.size w w' := by
  have H42 := Aside0.mk (fun W => some42 A c l W hl hm)
  obtain ⟨n, hn⟩ : ∃ n, (l.take 5).length = n := ⟨_, rfl⟩
  rw [hn] at H42 ⊢
  clear hn hl hm
  have hF := Aside0.mk (Fr.Frame.start w)
  have HC : True := trivial
  go_enter Try.func50, Try.ntmps50
  go_wp2_with (first | ((with_reducible refine gate_store rfl ?_); apply Fr.fr_store hF.out rfl rfl rfl; (case hp => rfl); (case hx => first | (go_simp; rfl) | rfl); (case hu => (simp only [Value.cells]; rfl)); (case hs => (repeat (first | exact Fr.Spot.here _ _ | apply Fr.Spot.there))); (case ht => kernel_rfl); (case h1 => simp [Value.oneCell']); (case hfit => simp); intro W hF1; simp only [Fr.patch, List.take_zero, List.nil_append, List.drop, List.append_nil, List.take, List.cons_append, List.length_cons, List.length_nil, Nat.reduceAdd] at hF1; have HC1 := hF1.cells; simp only [Fr.Cells, List.length_cons, List.length_nil, Nat.reduceAdd, and_true] at HC1; clear hF HC; have HC := HC1; have hF := Aside0.mk hF1; clear hF1 HC1) | ((first | (with_reducible refine Fr.gate_alloc rfl ?_) | (with_reducible refine Fr.gate_box rfl ?_)); apply Fr.fr_box hF.out rfl; (case hrun => first | (go_simp; done) | (go_simp; rfl)); intro g W hF1; have HC1 := hF1.cells; simp only [Fr.Cells, List.length_cons, List.length_nil, Nat.reduceAdd, and_true] at HC1; clear hF HC; have HC := HC1; have hF := Aside0.mk hF1; clear hF1 HC1))
  (with_reducible refine (H42.out _).mono ?_)
  rintro e W' ⟨rfl, rfl⟩
  go_wp2_with (first | ((with_reducible refine gate_store rfl ?_); apply Fr.fr_store hF.out rfl rfl rfl; (case hp => rfl); (case hx => first | (go_simp; rfl) | rfl); (case hu => (simp only [Value.cells]; rfl)); (case hs => (repeat (first | exact Fr.Spot.here _ _ | apply Fr.Spot.there))); (case ht => kernel_rfl); (case h1 => simp [Value.oneCell']); (case hfit => simp); intro W hF1; simp only [Fr.patch, List.take_zero, List.nil_append, List.drop, List.append_nil, List.take, List.cons_append, List.length_cons, List.length_nil, Nat.reduceAdd] at hF1; have HC1 := hF1.cells; simp only [Fr.Cells, List.length_cons, List.length_nil, Nat.reduceAdd, and_true] at HC1; clear hF HC; have HC := HC1; have hF := Aside0.mk hF1; clear hF1 HC1) | ((first | (with_reducible refine Fr.gate_alloc rfl ?_) | (with_reducible refine Fr.gate_box rfl ?_)); apply Fr.fr_box hF.out rfl; (case hrun => first | (go_simp; done) | (go_simp; rfl)); intro g W hF1; have HC1 := hF1.cells; simp only [Fr.Cells, List.length_cons, List.length_nil, Nat.reduceAdd, and_true] at HC1; clear hF HC; have HC := HC1; have hF := Aside0.mk hF1; clear hF1 HC1))
  refine bodyPost_ret ?_ rfl ⟨rfl, hF.out.below⟩
  simp [results, Try.results50, go_sem, HC]
def moreT (a : Int) : Int := Int.tmod (IntKind.u64.wrap a) 1073741824
theorem more_in (a : Int) : 0 ≤ moreT a ∧ moreT a < 1073741824 := u64mod a 1073741824 (by decide)
set_option maxHeartbeats 4000000 in
set_option maxRecDepth 100000 in
theorem late_11 (c : Cf) (A0 : Option Addr) (c0 : Nat) (A1 : Option Addr) (c1 : Nat) (d : Dy) (A2 : Option Addr) (c2 : Nat) (now more : Int) (ok : Bool) (draw : Int) (w : World) (hr0 : Kd.C k76 w A0 c.rs.length c.rs) (hl0 : c.rs.length ≤ c0) (hr1 : Kd.C k58 w A1 c.ro.length c.ro) (hl1 : c.ro.length ≤ c1) (hr2 : Kd.C k92 w A2 d.ls.length d.ls) (hl2 : d.ls.length ≤ c2)
    (q : Cf) (hq : cutC c = q) (L : List S92) (hL : d.ls.take 5 = L) (nw mr : Int) (hnw : nowT now = nw) (hmr : moreT more = mr)
    (hS1 : ∀ W, Below w.heap.size w W → Calls Try.prog 48 #[.agg #[.slice A0 q.rs.length c0, .slice A1 q.ro.length c1, .int .i64 q.rep, .int .i64 q.beat], .agg #[.slice A2 L.length c2, .int .i64 d.ro, .int .i64 d.pl, .int .i64 d.tr, .int .i64 d.due, .int .i64 d.st], .int .i64 (nw), .bool ok, .int .i64 draw] W fun e w' => e = .returned (.tuple #[.agg #[.slice none 0 0, .int .i64 0, .int .i64 0, .int .i64 0, .int .i64 0, .int .i64 0], .bool false, .int .i64 1]) ∧ Below W.heap.size W w') (hS2 : ∀ W, Below w.heap.size w W → Calls Try.prog 48 #[.agg #[.slice A0 q.rs.length c0, .slice A1 q.ro.length c1, .int .i64 q.rep, .int .i64 q.beat], .agg #[.slice A2 L.length c2, .int .i64 d.ro, .int .i64 d.pl, .int .i64 d.tr, .int .i64 d.due, .int .i64 d.st], .int .i64 (nw + mr), .bool ok, .int .i64 draw] W fun e w' => ∃ (A : Option Addr) (n c : Nat) (r0 r1 r2 r3 r4 : Int) (g : Bool), e = .returned (.tuple #[.agg #[.slice A n c, .int .i64 r0, .int .i64 r1, .int .i64 r2, .int .i64 r3, .int .i64 r4], .bool g, .int .i64 1]) ∧ Below W.heap.size W w') :
    Calls Try.prog 11 #[.agg #[.slice A0 c.rs.length c0, .slice A1 c.ro.length c1, .int .i64 c.rep, .int .i64 c.beat], .agg #[.slice A2 d.ls.length c2, .int .i64 d.ro, .int .i64 d.pl, .int .i64 d.tr, .int .i64 d.due, .int .i64 d.st], .int .i64 now, .int .i64 more, .bool ok, .int .i64 draw] w fun e w' => e = .returned (.bool true) ∧ Below w.heap.size w w' := by
  have hm0 := hr0.2.1
  have hm1 := hr1.2.1
  have hm2 := hr2.2.1
  have hqL : Kd.C k92 w A2 L.length L := take_C 5 hr2 hL
  have hqLl : L.length ≤ c2 := by rw [← hL]; rw [List.length_take]; omega
  have hL5 : L.length ≤ 5 := by rw [← hL]; exact List.length_take_le 5 d.ls
  have H41 := Aside0.mk (fun W => few_calls 41 (.inr rfl) c A0 c0 A1 c1 W hl0 hl1 hm0 hm1)
  rw [hq] at H41
  have H50 := Aside0.mk (fun W => cut50_calls A2 c2 d.ls d.ro d.pl d.tr d.due d.st W hl2 hm2)
  rw [hL] at H50
  have HQL := Aside0.mk hqL
  have HQLL := Aside0.mk hqLl
  have HSAME := Aside0.mk (same16_ref L (by omega))
  have HS1 := Aside0.mk hS1
  have HS2 := Aside0.mk hS2
  have hnwi := now_in now
  have hmri := more_in more
  rw [hnw] at hnwi
  rw [hmr] at hmri
  have hnw2 : Int.tmod (IntKind.u64.wrap now) 274877906944 = nw := hnw
  have hmr2 : Int.tmod (IntKind.u64.wrap more) 1073741824 = mr := hmr
  have hnw3 : IntKind.i64.wrap nw = nw := by rw [IntKind.wrap_i64]; omega
  have hmr3 : IntKind.i64.wrap mr = mr := by rw [IntKind.wrap_i64]; omega
  obtain ⟨t2, ht2⟩ : ∃ t2, nw + mr = t2 := ⟨_, rfl⟩
  have HT2 := Aside0.mk ht2
  have hsum : wrap64 (nw + mr) = t2 := by rw [← ht2]; exact w64' (by omega) (by omega)
  rw [ht2] at HS2
  skip
  clear hr0 hl0 hr1 hl1 hr2 hl2 hq hL hm0 hm1 hm2 hqL hqLl hL5 hnw hmr hS1 hS2 ht2 hnwi hmri
  obtain ⟨Ls, ro, pl, tr, du, st⟩ := d
  dsimp only at H50 HS1 HS2 ⊢
  obtain ⟨n2, hn2⟩ : ∃ n2, L.length = n2 := ⟨_, rfl⟩
  have HN2 := Aside0.mk hn2
  rw [hn2] at H50 HS1 HS2
  clear hn2
  obtain ⟨nn2, hnn2⟩ : ∃ nn2, Ls.length = nn2 := ⟨_, rfl⟩
  rw [hnn2] at H50 ⊢
  clear hnn2
  obtain ⟨z0, hz0⟩ : ∃ z0, c.rs.length = z0 := ⟨_, rfl⟩
  rw [hz0] at H41 ⊢
  clear hz0
  obtain ⟨z1, hz1⟩ : ∃ z1, c.ro.length = z1 := ⟨_, rfl⟩
  rw [hz1] at H41 ⊢
  clear hz1
  have hF := Aside0.mk (Fr.Frame.start w)
  have HC : True := trivial
  go_enter Try.func11, Try.ntmps11
  go_wp2_with (first | ((with_reducible refine gate_store rfl ?_); apply Fr.fr_store hF.out rfl rfl rfl; (case hp => rfl); (case hx => first | (go_simp; rfl) | rfl); (case hu => (simp only [Value.cells]; rfl)); (case hs => (repeat (first | exact Fr.Spot.here _ _ | apply Fr.Spot.there))); (case ht => kernel_rfl); (case h1 => simp [Value.oneCell']); (case hfit => simp); intro W hF1; simp only [Fr.patch, List.take_zero, List.nil_append, List.drop, List.append_nil, List.take, List.cons_append, List.length_cons, List.length_nil, Nat.reduceAdd] at hF1; have HC1 := hF1.cells; simp only [Fr.Cells, List.length_cons, List.length_nil, Nat.reduceAdd, and_true] at HC1; clear hF HC; have HC := HC1; have hF := Aside0.mk hF1; clear hF1 HC1) | ((with_reducible refine gate_dst (N := 6) rfl ?_); apply Fr.fr_box hF.out rfl; (case hrun => first | (go_simp; done) | (go_simp; rfl)); intro gc W hF1; have HC1 := hF1.cells; simp only [Fr.Cells, List.length_cons, List.length_nil, Nat.reduceAdd, and_true] at HC1; clear hF HC; have HC := HC1; have hF := Aside0.mk hF1; clear hF1 HC1) | ((with_reducible refine gate_dst (N := 7) rfl ?_); apply Fr.fr_box hF.out rfl; (case hrun => first | (go_simp; done) | (go_simp; rfl)); intro gd W hF1; have HC1 := hF1.cells; simp only [Fr.Cells, List.length_cons, List.length_nil, Nat.reduceAdd, and_true] at HC1; clear hF HC; have HC := HC1; have hF := Aside0.mk hF1; clear hF1 HC1) | ((first | (with_reducible refine Fr.gate_alloc rfl ?_) | (with_reducible refine Fr.gate_box rfl ?_)); apply Fr.fr_box hF.out rfl; (case hrun => first | (go_simp; done) | (go_simp; rfl)); intro g W hF1; have HC1 := hF1.cells; simp only [Fr.Cells, List.length_cons, List.length_nil, Nat.reduceAdd, and_true] at HC1; clear hF HC; have HC := HC1; have hF := Aside0.mk hF1; clear hF1 HC1))
  have HF0 := Aside0.mk hF.out.drew
  have HD0 := HF0.out.cells
  simp only [Fr.Cells, List.length_cons, List.length_nil, Nat.reduceAdd, and_true] at HD0
  clear hF HC
  have HDRW := Aside0.mk (show W.drew.heap.size = W.heap.size from rfl)
  have hne : gd ≠ gc := fun e => by have := HF0.out.nodup; simp only [List.map_cons, List.nodup_cons] at this; exact this.1 (by rw [e]; exact List.mem_cons_self)
  have hne' : gc ≠ gd := fun e => hne e.symm
  go_region_with (first | (go_at_call 41; refine (H41.out _).mono ?_; rintro e Wa ⟨rfl, hb⟩; have HFa := Aside0.mk (HF0.out.call hb); clear hb HD0; have HDa := HFa.out.cells; simp only [Fr.Cells, List.length_cons, List.length_nil, Nat.reduceAdd, and_true] at HDa) | (go_at_call 50; refine (H50.out _).mono ?_; rintro e Wb ⟨rfl, hb⟩; have HFb := Aside0.mk (HFa.out.call hb); clear hb HDa; have HDb := HFb.out.cells; simp only [Fr.Cells, List.length_cons, List.length_nil, Nat.reduceAdd, and_true] at HDb))
  all_goals
    have hF1 : Fr.Frame w ((((((((((Wb.setCell ⟨gc, 0, none⟩ (.slice A0 q.rs.length c0)).setCell ⟨gc, 1, none⟩ (.slice A1 q.ro.length c1)).setCell ⟨gc, 2, none⟩ (.int .i64 q.rep)).setCell ⟨gc, 3, none⟩ (.int .i64 q.beat)).setCell ⟨gd, 0, none⟩ (.slice A2 n2 c2)).setCell ⟨gd, 1, none⟩ (.int .i64 ro)).setCell ⟨gd, 2, none⟩ (.int .i64 pl)).setCell ⟨gd, 3, none⟩ (.int .i64 tr)).setCell ⟨gd, 4, none⟩ (.int .i64 du)).setCell ⟨gd, 5, none⟩ (.int .i64 st)) [(gd, [.slice A2 n2 c2, .int .i64 ro, .int .i64 pl, .int .i64 tr, .int .i64 du, .int .i64 st], 69), (gc, [.slice A0 q.rs.length c0, .slice A1 q.ro.length c1, .int .i64 q.rep, .int .i64 q.beat], 53)] [] := (HFb.out.put (Fr.Spot.there _ (Fr.Spot.here _ _)) 0 [.slice A0 q.rs.length c0, .slice A1 q.ro.length c1, .int .i64 q.rep, .int .i64 q.beat] (by simp)).put (Fr.Spot.here _ _) 0 [.slice A2 n2 c2, .int .i64 ro, .int .i64 pl, .int .i64 tr, .int .i64 du, .int .i64 st] (by simp)
    clear HFb HFa HF0 HDb
    obtain ⟨W9, hW9⟩ : ∃ W9, ((((((((((Wb.setCell ⟨gc, 0, none⟩ (.slice A0 q.rs.length c0)).setCell ⟨gc, 1, none⟩ (.slice A1 q.ro.length c1)).setCell ⟨gc, 2, none⟩ (.int .i64 q.rep)).setCell ⟨gc, 3, none⟩ (.int .i64 q.beat)).setCell ⟨gd, 0, none⟩ (.slice A2 n2 c2)).setCell ⟨gd, 1, none⟩ (.int .i64 ro)).setCell ⟨gd, 2, none⟩ (.int .i64 pl)).setCell ⟨gd, 3, none⟩ (.int .i64 tr)).setCell ⟨gd, 4, none⟩ (.int .i64 du)).setCell ⟨gd, 5, none⟩ (.int .i64 st)) = W9 := ⟨_, rfl⟩
    rw [hW9] at hF1 ⊢
    clear hW9
    have hF : True := trivial
    have HC : True := trivial
    have HC1 := hF1.cells; simp only [Fr.Cells, List.length_cons, List.length_nil, Nat.reduceAdd, and_true] at HC1; clear hF HC; have HC := HC1; have hF := Aside0.mk hF1; clear hF1 HC1
    go_wp2_with (first | ((with_reducible refine gate_store rfl ?_); apply Fr.fr_store hF.out rfl rfl rfl; (case hp => rfl); (case hx => first | (go_simp; rfl) | rfl); (case hu => (simp only [Value.cells]; rfl)); (case hs => (repeat (first | exact Fr.Spot.here _ _ | apply Fr.Spot.there))); (case ht => kernel_rfl); (case h1 => simp [Value.oneCell']); (case hfit => simp); intro W hF1; simp only [Fr.patch, List.take_zero, List.nil_append, List.drop, List.append_nil, List.take, List.cons_append, List.length_cons, List.length_nil, Nat.reduceAdd] at hF1; have HC1 := hF1.cells; simp only [Fr.Cells, List.length_cons, List.length_nil, Nat.reduceAdd, and_true] at HC1; clear hF HC; have HC := HC1; have hF := Aside0.mk hF1; clear hF1 HC1) | ((first | (with_reducible refine Fr.gate_alloc rfl ?_) | (with_reducible refine Fr.gate_box rfl ?_)); apply Fr.fr_box hF.out rfl; (case hrun => first | (go_simp; done) | (go_simp; rfl)); intro g W hF1; have HC1 := hF1.cells; simp only [Fr.Cells, List.length_cons, List.length_nil, Nat.reduceAdd, and_true] at HC1; clear hF HC; have HC := HC1; have hF := Aside0.mk hF1; clear hF1 HC1))
    (with_reducible refine (HS1.out _ hF.out.below).mono ?_); rintro e W ⟨rfl, hb⟩; have hF1 := hF.out.call hb; clear hb; have HC1 := hF1.cells; simp only [Fr.Cells, List.length_cons, List.length_nil, Nat.reduceAdd, and_true] at HC1; clear hF HC; have HC := HC1; have hF := Aside0.mk hF1; clear hF1 HC1
    go_wp2_with (first | ((with_reducible refine gate_store rfl ?_); apply Fr.fr_store hF.out rfl rfl rfl; (case hp => rfl); (case hx => first | (go_simp; rfl) | rfl); (case hu => (simp only [Value.cells]; rfl)); (case hs => (repeat (first | exact Fr.Spot.here _ _ | apply Fr.Spot.there))); (case ht => kernel_rfl); (case h1 => simp [Value.oneCell']); (case hfit => simp); intro W hF1; simp only [Fr.patch, List.take_zero, List.nil_append, List.drop, List.append_nil, List.take, List.cons_append, List.length_cons, List.length_nil, Nat.reduceAdd] at hF1; have HC1 := hF1.cells; simp only [Fr.Cells, List.length_cons, List.length_nil, Nat.reduceAdd, and_true] at HC1; clear hF HC; have HC := HC1; have hF := Aside0.mk hF1; clear hF1 HC1) | ((first | (with_reducible refine Fr.gate_alloc rfl ?_) | (with_reducible refine Fr.gate_box rfl ?_)); apply Fr.fr_box hF.out rfl; (case hrun => first | (go_simp; done) | (go_simp; rfl)); intro g W hF1; have HC1 := hF1.cells; simp only [Fr.Cells, List.length_cons, List.length_nil, Nat.reduceAdd, and_true] at HC1; clear hF HC; have HC := HC1; have hF := Aside0.mk hF1; clear hF1 HC1))
    (with_reducible refine (HS2.out _ hF.out.below).mono ?_)
    rintro e W ⟨A9, n9, c9, y0, y1, y2, y3, y4, g9, rfl, hb⟩
    have hF1 := hF.out.call hb
    clear hb
    have HC1 := hF1.cells; simp only [Fr.Cells, List.length_cons, List.length_nil, Nat.reduceAdd, and_true] at HC1; clear hF HC; have HC := HC1; have hF := Aside0.mk hF1; clear hF1 HC1
    go_wp2_with (first | ((with_reducible refine gate_store rfl ?_); apply Fr.fr_store hF.out rfl rfl rfl; (case hp => rfl); (case hx => first | (go_simp; rfl) | rfl); (case hu => (simp only [Value.cells]; rfl)); (case hs => (repeat (first | exact Fr.Spot.here _ _ | apply Fr.Spot.there))); (case ht => kernel_rfl); (case h1 => simp [Value.oneCell']); (case hfit => simp); intro W hF1; simp only [Fr.patch, List.take_zero, List.nil_append, List.drop, List.append_nil, List.take, List.cons_append, List.length_cons, List.length_nil, Nat.reduceAdd] at hF1; have HC1 := hF1.cells; simp only [Fr.Cells, List.length_cons, List.length_nil, Nat.reduceAdd, and_true] at HC1; clear hF HC; have HC := HC1; have hF := Aside0.mk hF1; clear hF1 HC1) | ((first | (with_reducible refine Fr.gate_alloc rfl ?_) | (with_reducible refine Fr.gate_box rfl ?_)); apply Fr.fr_box hF.out rfl; (case hrun => first | (go_simp; done) | (go_simp; rfl)); intro g W hF1; have HC1 := hF1.cells; simp only [Fr.Cells, List.length_cons, List.length_nil, Nat.reduceAdd, and_true] at HC1; clear hF HC; have HC := HC1; have hF := Aside0.mk hF1; clear hF1 HC1))
    (with_reducible refine (alive44_calls _).mono ?_); rintro e W ⟨rfl, hb⟩; have hF1 := hF.out.call hb; clear hb; have HC1 := hF1.cells; simp only [Fr.Cells, List.length_cons, List.length_nil, Nat.reduceAdd, and_true] at HC1; clear hF HC; have HC := HC1; have hF := Aside0.mk hF1; clear hF1 HC1
    go_wp2_with (first | ((with_reducible refine gate_store rfl ?_); apply Fr.fr_store hF.out rfl rfl rfl; (case hp => rfl); (case hx => first | (go_simp; rfl) | rfl); (case hu => (simp only [Value.cells]; rfl)); (case hs => (repeat (first | exact Fr.Spot.here _ _ | apply Fr.Spot.there))); (case ht => kernel_rfl); (case h1 => simp [Value.oneCell']); (case hfit => simp); intro W hF1; simp only [Fr.patch, List.take_zero, List.nil_append, List.drop, List.append_nil, List.take, List.cons_append, List.length_cons, List.length_nil, Nat.reduceAdd] at hF1; have HC1 := hF1.cells; simp only [Fr.Cells, List.length_cons, List.length_nil, Nat.reduceAdd, and_true] at HC1; clear hF HC; have HC := HC1; have hF := Aside0.mk hF1; clear hF1 HC1) | ((first | (with_reducible refine Fr.gate_alloc rfl ?_) | (with_reducible refine Fr.gate_box rfl ?_)); apply Fr.fr_box hF.out rfl; (case hrun => first | (go_simp; done) | (go_simp; rfl)); intro g W hF1; have HC1 := hF1.cells; simp only [Fr.Cells, List.length_cons, List.length_nil, Nat.reduceAdd, and_true] at HC1; clear hF HC; have HC := HC1; have hF := Aside0.mk hF1; clear hF1 HC1))
    (with_reducible refine (same_zero _).mono ?_); rintro e W ⟨rfl, hb⟩; have hF1 := hF.out.call hb; clear hb; have HC1 := hF1.cells; simp only [Fr.Cells, List.length_cons, List.length_nil, Nat.reduceAdd, and_true] at HC1; clear hF HC; have HC := HC1; have hF := Aside0.mk hF1; clear hF1 HC1
    go_wp2_with (first | ((with_reducible refine gate_store rfl ?_); apply Fr.fr_store hF.out rfl rfl rfl; (case hp => rfl); (case hx => first | (go_simp; rfl) | rfl); (case hu => (simp only [Value.cells]; rfl)); (case hs => (repeat (first | exact Fr.Spot.here _ _ | apply Fr.Spot.there))); (case ht => kernel_rfl); (case h1 => simp [Value.oneCell']); (case hfit => simp); intro W hF1; simp only [Fr.patch, List.take_zero, List.nil_append, List.drop, List.append_nil, List.take, List.cons_append, List.length_cons, List.length_nil, Nat.reduceAdd] at hF1; have HC1 := hF1.cells; simp only [Fr.Cells, List.length_cons, List.length_nil, Nat.reduceAdd, and_true] at HC1; clear hF HC; have HC := HC1; have hF := Aside0.mk hF1; clear hF1 HC1) | ((first | (with_reducible refine Fr.gate_alloc rfl ?_) | (with_reducible refine Fr.gate_box rfl ?_)); apply Fr.fr_box hF.out rfl; (case hrun => first | (go_simp; done) | (go_simp; rfl)); intro g W hF1; have HC1 := hF1.cells; simp only [Fr.Cells, List.length_cons, List.length_nil, Nat.reduceAdd, and_true] at HC1; clear hF HC; have HC := HC1; have hF := Aside0.mk hF1; clear hF1 HC1))
    go_ret
    exact ⟨rfl, hF.out.below⟩
set_option maxHeartbeats 4000000 in
set_option maxRecDepth 100000 in
theorem late_66 (c : Cf) (A0 : Option Addr) (c0 : Nat) (A1 : Option Addr) (c1 : Nat) (d : Dy) (A2 : Option Addr) (c2 : Nat) (now more : Int) (ok : Bool) (draw : Int) (w : World) (hr0 : Kd.C k76 w A0 c.rs.length c.rs) (hl0 : c.rs.length ≤ c0) (hr1 : Kd.C k58 w A1 c.ro.length c.ro) (hl1 : c.ro.length ≤ c1) (hr2 : Kd.C k92 w A2 d.ls.length d.ls) (hl2 : d.ls.length ≤ c2)
    (q : Cf) (hq : cutC c = q) (L : List S92) (hL : d.ls.take 5 = L) (nw mr : Int) (hnw : nowT now = nw) (hmr : moreT more = mr)
    (hS1 : ∀ W, Below w.heap.size w W → Calls Try.prog 48 #[.agg #[.slice A0 q.rs.length c0, .slice A1 q.ro.length c1, .int .i64 q.rep, .int .i64 q.beat], .agg #[.slice A2 L.length c2, .int .i64 d.ro, .int .i64 d.pl, .int .i64 d.tr, .int .i64 d.due, .int .i64 d.st], .int .i64 (nw), .bool ok, .int .i64 draw] W fun e w' => e = .returned (.tuple #[.agg #[.slice none 0 0, .int .i64 0, .int .i64 0, .int .i64 0, .int .i64 0, .int .i64 0], .bool false, .int .i64 6]) ∧ Below W.heap.size W w') (hS2 : ∀ W, Below w.heap.size w W → Calls Try.prog 48 #[.agg #[.slice A0 q.rs.length c0, .slice A1 q.ro.length c1, .int .i64 q.rep, .int .i64 q.beat], .agg #[.slice A2 L.length c2, .int .i64 d.ro, .int .i64 d.pl, .int .i64 d.tr, .int .i64 d.due, .int .i64 d.st], .int .i64 (nw + mr), .bool ok, .int .i64 draw] W fun e w' => ∃ (A : Option Addr) (n c : Nat) (r0 r1 r2 r3 r4 : Int) (g : Bool), e = .returned (.tuple #[.agg #[.slice A n c, .int .i64 r0, .int .i64 r1, .int .i64 r2, .int .i64 r3, .int .i64 r4], .bool g, .int .i64 6]) ∧ Below W.heap.size W w') :
    Calls Try.prog 11 #[.agg #[.slice A0 c.rs.length c0, .slice A1 c.ro.length c1, .int .i64 c.rep, .int .i64 c.beat], .agg #[.slice A2 d.ls.length c2, .int .i64 d.ro, .int .i64 d.pl, .int .i64 d.tr, .int .i64 d.due, .int .i64 d.st], .int .i64 now, .int .i64 more, .bool ok, .int .i64 draw] w fun e w' => e = .returned (.bool true) ∧ Below w.heap.size w w' := by
  have hm0 := hr0.2.1
  have hm1 := hr1.2.1
  have hm2 := hr2.2.1
  have hqL : Kd.C k92 w A2 L.length L := take_C 5 hr2 hL
  have hqLl : L.length ≤ c2 := by rw [← hL]; rw [List.length_take]; omega
  have hL5 : L.length ≤ 5 := by rw [← hL]; exact List.length_take_le 5 d.ls
  have H41 := Aside0.mk (fun W => few_calls 41 (.inr rfl) c A0 c0 A1 c1 W hl0 hl1 hm0 hm1)
  rw [hq] at H41
  have H50 := Aside0.mk (fun W => cut50_calls A2 c2 d.ls d.ro d.pl d.tr d.due d.st W hl2 hm2)
  rw [hL] at H50
  have HQL := Aside0.mk hqL
  have HQLL := Aside0.mk hqLl
  have HSAME := Aside0.mk (same16_ref L (by omega))
  have HS1 := Aside0.mk hS1
  have HS2 := Aside0.mk hS2
  have hnwi := now_in now
  have hmri := more_in more
  rw [hnw] at hnwi
  rw [hmr] at hmri
  have hnw2 : Int.tmod (IntKind.u64.wrap now) 274877906944 = nw := hnw
  have hmr2 : Int.tmod (IntKind.u64.wrap more) 1073741824 = mr := hmr
  have hnw3 : IntKind.i64.wrap nw = nw := by rw [IntKind.wrap_i64]; omega
  have hmr3 : IntKind.i64.wrap mr = mr := by rw [IntKind.wrap_i64]; omega
  obtain ⟨t2, ht2⟩ : ∃ t2, nw + mr = t2 := ⟨_, rfl⟩
  have HT2 := Aside0.mk ht2
  have hsum : wrap64 (nw + mr) = t2 := by rw [← ht2]; exact w64' (by omega) (by omega)
  rw [ht2] at HS2
  skip
  clear hr0 hl0 hr1 hl1 hr2 hl2 hq hL hm0 hm1 hm2 hqL hqLl hL5 hnw hmr hS1 hS2 ht2 hnwi hmri
  obtain ⟨Ls, ro, pl, tr, du, st⟩ := d
  dsimp only at H50 HS1 HS2 ⊢
  obtain ⟨n2, hn2⟩ : ∃ n2, L.length = n2 := ⟨_, rfl⟩
  have HN2 := Aside0.mk hn2
  rw [hn2] at H50 HS1 HS2
  clear hn2
  obtain ⟨nn2, hnn2⟩ : ∃ nn2, Ls.length = nn2 := ⟨_, rfl⟩
  rw [hnn2] at H50 ⊢
  clear hnn2
  obtain ⟨z0, hz0⟩ : ∃ z0, c.rs.length = z0 := ⟨_, rfl⟩
  rw [hz0] at H41 ⊢
  clear hz0
  obtain ⟨z1, hz1⟩ : ∃ z1, c.ro.length = z1 := ⟨_, rfl⟩
  rw [hz1] at H41 ⊢
  clear hz1
  have hF := Aside0.mk (Fr.Frame.start w)
  have HC : True := trivial
  go_enter Try.func11, Try.ntmps11
  go_wp2_with (first | ((with_reducible refine gate_store rfl ?_); apply Fr.fr_store hF.out rfl rfl rfl; (case hp => rfl); (case hx => first | (go_simp; rfl) | rfl); (case hu => (simp only [Value.cells]; rfl)); (case hs => (repeat (first | exact Fr.Spot.here _ _ | apply Fr.Spot.there))); (case ht => kernel_rfl); (case h1 => simp [Value.oneCell']); (case hfit => simp); intro W hF1; simp only [Fr.patch, List.take_zero, List.nil_append, List.drop, List.append_nil, List.take, List.cons_append, List.length_cons, List.length_nil, Nat.reduceAdd] at hF1; have HC1 := hF1.cells; simp only [Fr.Cells, List.length_cons, List.length_nil, Nat.reduceAdd, and_true] at HC1; clear hF HC; have HC := HC1; have hF := Aside0.mk hF1; clear hF1 HC1) | ((with_reducible refine gate_dst (N := 6) rfl ?_); apply Fr.fr_box hF.out rfl; (case hrun => first | (go_simp; done) | (go_simp; rfl)); intro gc W hF1; have HC1 := hF1.cells; simp only [Fr.Cells, List.length_cons, List.length_nil, Nat.reduceAdd, and_true] at HC1; clear hF HC; have HC := HC1; have hF := Aside0.mk hF1; clear hF1 HC1) | ((with_reducible refine gate_dst (N := 7) rfl ?_); apply Fr.fr_box hF.out rfl; (case hrun => first | (go_simp; done) | (go_simp; rfl)); intro gd W hF1; have HC1 := hF1.cells; simp only [Fr.Cells, List.length_cons, List.length_nil, Nat.reduceAdd, and_true] at HC1; clear hF HC; have HC := HC1; have hF := Aside0.mk hF1; clear hF1 HC1) | ((first | (with_reducible refine Fr.gate_alloc rfl ?_) | (with_reducible refine Fr.gate_box rfl ?_)); apply Fr.fr_box hF.out rfl; (case hrun => first | (go_simp; done) | (go_simp; rfl)); intro g W hF1; have HC1 := hF1.cells; simp only [Fr.Cells, List.length_cons, List.length_nil, Nat.reduceAdd, and_true] at HC1; clear hF HC; have HC := HC1; have hF := Aside0.mk hF1; clear hF1 HC1))
  have HF0 := Aside0.mk hF.out.drew
  have HD0 := HF0.out.cells
  simp only [Fr.Cells, List.length_cons, List.length_nil, Nat.reduceAdd, and_true] at HD0
  clear hF HC
  have HDRW := Aside0.mk (show W.drew.heap.size = W.heap.size from rfl)
  have hne : gd ≠ gc := fun e => by have := HF0.out.nodup; simp only [List.map_cons, List.nodup_cons] at this; exact this.1 (by rw [e]; exact List.mem_cons_self)
  have hne' : gc ≠ gd := fun e => hne e.symm
  go_region_with (first | (go_at_call 41; refine (H41.out _).mono ?_; rintro e Wa ⟨rfl, hb⟩; have HFa := Aside0.mk (HF0.out.call hb); clear hb HD0; have HDa := HFa.out.cells; simp only [Fr.Cells, List.length_cons, List.length_nil, Nat.reduceAdd, and_true] at HDa) | (go_at_call 50; refine (H50.out _).mono ?_; rintro e Wb ⟨rfl, hb⟩; have HFb := Aside0.mk (HFa.out.call hb); clear hb HDa; have HDb := HFb.out.cells; simp only [Fr.Cells, List.length_cons, List.length_nil, Nat.reduceAdd, and_true] at HDb))
  all_goals
    have hF1 : Fr.Frame w ((((((((((Wb.setCell ⟨gc, 0, none⟩ (.slice A0 q.rs.length c0)).setCell ⟨gc, 1, none⟩ (.slice A1 q.ro.length c1)).setCell ⟨gc, 2, none⟩ (.int .i64 q.rep)).setCell ⟨gc, 3, none⟩ (.int .i64 q.beat)).setCell ⟨gd, 0, none⟩ (.slice A2 n2 c2)).setCell ⟨gd, 1, none⟩ (.int .i64 ro)).setCell ⟨gd, 2, none⟩ (.int .i64 pl)).setCell ⟨gd, 3, none⟩ (.int .i64 tr)).setCell ⟨gd, 4, none⟩ (.int .i64 du)).setCell ⟨gd, 5, none⟩ (.int .i64 st)) [(gd, [.slice A2 n2 c2, .int .i64 ro, .int .i64 pl, .int .i64 tr, .int .i64 du, .int .i64 st], 69), (gc, [.slice A0 q.rs.length c0, .slice A1 q.ro.length c1, .int .i64 q.rep, .int .i64 q.beat], 53)] [] := (HFb.out.put (Fr.Spot.there _ (Fr.Spot.here _ _)) 0 [.slice A0 q.rs.length c0, .slice A1 q.ro.length c1, .int .i64 q.rep, .int .i64 q.beat] (by simp)).put (Fr.Spot.here _ _) 0 [.slice A2 n2 c2, .int .i64 ro, .int .i64 pl, .int .i64 tr, .int .i64 du, .int .i64 st] (by simp)
    clear HFb HFa HF0 HDb
    obtain ⟨W9, hW9⟩ : ∃ W9, ((((((((((Wb.setCell ⟨gc, 0, none⟩ (.slice A0 q.rs.length c0)).setCell ⟨gc, 1, none⟩ (.slice A1 q.ro.length c1)).setCell ⟨gc, 2, none⟩ (.int .i64 q.rep)).setCell ⟨gc, 3, none⟩ (.int .i64 q.beat)).setCell ⟨gd, 0, none⟩ (.slice A2 n2 c2)).setCell ⟨gd, 1, none⟩ (.int .i64 ro)).setCell ⟨gd, 2, none⟩ (.int .i64 pl)).setCell ⟨gd, 3, none⟩ (.int .i64 tr)).setCell ⟨gd, 4, none⟩ (.int .i64 du)).setCell ⟨gd, 5, none⟩ (.int .i64 st)) = W9 := ⟨_, rfl⟩
    rw [hW9] at hF1 ⊢
    clear hW9
    have hF : True := trivial
    have HC : True := trivial
    have HC1 := hF1.cells; simp only [Fr.Cells, List.length_cons, List.length_nil, Nat.reduceAdd, and_true] at HC1; clear hF HC; have HC := HC1; have hF := Aside0.mk hF1; clear hF1 HC1
    go_wp2_with (first | ((with_reducible refine gate_store rfl ?_); apply Fr.fr_store hF.out rfl rfl rfl; (case hp => rfl); (case hx => first | (go_simp; rfl) | rfl); (case hu => (simp only [Value.cells]; rfl)); (case hs => (repeat (first | exact Fr.Spot.here _ _ | apply Fr.Spot.there))); (case ht => kernel_rfl); (case h1 => simp [Value.oneCell']); (case hfit => simp); intro W hF1; simp only [Fr.patch, List.take_zero, List.nil_append, List.drop, List.append_nil, List.take, List.cons_append, List.length_cons, List.length_nil, Nat.reduceAdd] at hF1; have HC1 := hF1.cells; simp only [Fr.Cells, List.length_cons, List.length_nil, Nat.reduceAdd, and_true] at HC1; clear hF HC; have HC := HC1; have hF := Aside0.mk hF1; clear hF1 HC1) | ((first | (with_reducible refine Fr.gate_alloc rfl ?_) | (with_reducible refine Fr.gate_box rfl ?_)); apply Fr.fr_box hF.out rfl; (case hrun => first | (go_simp; done) | (go_simp; rfl)); intro g W hF1; have HC1 := hF1.cells; simp only [Fr.Cells, List.length_cons, List.length_nil, Nat.reduceAdd, and_true] at HC1; clear hF HC; have HC := HC1; have hF := Aside0.mk hF1; clear hF1 HC1))
    (with_reducible refine (HS1.out _ hF.out.below).mono ?_); rintro e W ⟨rfl, hb⟩; have hF1 := hF.out.call hb; clear hb; have HC1 := hF1.cells; simp only [Fr.Cells, List.length_cons, List.length_nil, Nat.reduceAdd, and_true] at HC1; clear hF HC; have HC := HC1; have hF := Aside0.mk hF1; clear hF1 HC1
    go_wp2_with (first | ((with_reducible refine gate_store rfl ?_); apply Fr.fr_store hF.out rfl rfl rfl; (case hp => rfl); (case hx => first | (go_simp; rfl) | rfl); (case hu => (simp only [Value.cells]; rfl)); (case hs => (repeat (first | exact Fr.Spot.here _ _ | apply Fr.Spot.there))); (case ht => kernel_rfl); (case h1 => simp [Value.oneCell']); (case hfit => simp); intro W hF1; simp only [Fr.patch, List.take_zero, List.nil_append, List.drop, List.append_nil, List.take, List.cons_append, List.length_cons, List.length_nil, Nat.reduceAdd] at hF1; have HC1 := hF1.cells; simp only [Fr.Cells, List.length_cons, List.length_nil, Nat.reduceAdd, and_true] at HC1; clear hF HC; have HC := HC1; have hF := Aside0.mk hF1; clear hF1 HC1) | ((first | (with_reducible refine Fr.gate_alloc rfl ?_) | (with_reducible refine Fr.gate_box rfl ?_)); apply Fr.fr_box hF.out rfl; (case hrun => first | (go_simp; done) | (go_simp; rfl)); intro g W hF1; have HC1 := hF1.cells; simp only [Fr.Cells, List.length_cons, List.length_nil, Nat.reduceAdd, and_true] at HC1; clear hF HC; have HC := HC1; have hF := Aside0.mk hF1; clear hF1 HC1))
    (with_reducible refine (HS2.out _ hF.out.below).mono ?_)
    rintro e W ⟨A9, n9, c9, y0, y1, y2, y3, y4, g9, rfl, hb⟩
    have hF1 := hF.out.call hb
    clear hb
    have HC1 := hF1.cells; simp only [Fr.Cells, List.length_cons, List.length_nil, Nat.reduceAdd, and_true] at HC1; clear hF HC; have HC := HC1; have hF := Aside0.mk hF1; clear hF1 HC1
    go_wp2_with (first | ((with_reducible refine gate_store rfl ?_); apply Fr.fr_store hF.out rfl rfl rfl; (case hp => rfl); (case hx => first | (go_simp; rfl) | rfl); (case hu => (simp only [Value.cells]; rfl)); (case hs => (repeat (first | exact Fr.Spot.here _ _ | apply Fr.Spot.there))); (case ht => kernel_rfl); (case h1 => simp [Value.oneCell']); (case hfit => simp); intro W hF1; simp only [Fr.patch, List.take_zero, List.nil_append, List.drop, List.append_nil, List.take, List.cons_append, List.length_cons, List.length_nil, Nat.reduceAdd] at hF1; have HC1 := hF1.cells; simp only [Fr.Cells, List.length_cons, List.length_nil, Nat.reduceAdd, and_true] at HC1; clear hF HC; have HC := HC1; have hF := Aside0.mk hF1; clear hF1 HC1) | ((first | (with_reducible refine Fr.gate_alloc rfl ?_) | (with_reducible refine Fr.gate_box rfl ?_)); apply Fr.fr_box hF.out rfl; (case hrun => first | (go_simp; done) | (go_simp; rfl)); intro g W hF1; have HC1 := hF1.cells; simp only [Fr.Cells, List.length_cons, List.length_nil, Nat.reduceAdd, and_true] at HC1; clear hF HC; have HC := HC1; have hF := Aside0.mk hF1; clear hF1 HC1))
    (with_reducible refine (alive44_calls _).mono ?_); rintro e W ⟨rfl, hb⟩; have hF1 := hF.out.call hb; clear hb; have HC1 := hF1.cells; simp only [Fr.Cells, List.length_cons, List.length_nil, Nat.reduceAdd, and_true] at HC1; clear hF HC; have HC := HC1; have hF := Aside0.mk hF1; clear hF1 HC1
    go_wp2_with (first | ((with_reducible refine gate_store rfl ?_); apply Fr.fr_store hF.out rfl rfl rfl; (case hp => rfl); (case hx => first | (go_simp; rfl) | rfl); (case hu => (simp only [Value.cells]; rfl)); (case hs => (repeat (first | exact Fr.Spot.here _ _ | apply Fr.Spot.there))); (case ht => kernel_rfl); (case h1 => simp [Value.oneCell']); (case hfit => simp); intro W hF1; simp only [Fr.patch, List.take_zero, List.nil_append, List.drop, List.append_nil, List.take, List.cons_append, List.length_cons, List.length_nil, Nat.reduceAdd] at hF1; have HC1 := hF1.cells; simp only [Fr.Cells, List.length_cons, List.length_nil, Nat.reduceAdd, and_true] at HC1; clear hF HC; have HC := HC1; have hF := Aside0.mk hF1; clear hF1 HC1) | ((first | (with_reducible refine Fr.gate_alloc rfl ?_) | (with_reducible refine Fr.gate_box rfl ?_)); apply Fr.fr_box hF.out rfl; (case hrun => first | (go_simp; done) | (go_simp; rfl)); intro g W hF1; have HC1 := hF1.cells; simp only [Fr.Cells, List.length_cons, List.length_nil, Nat.reduceAdd, and_true] at HC1; clear hF HC; have HC := HC1; have hF := Aside0.mk hF1; clear hF1 HC1))
    (with_reducible refine (same_zero _).mono ?_); rintro e W ⟨rfl, hb⟩; have hF1 := hF.out.call hb; clear hb; have HC1 := hF1.cells; simp only [Fr.Cells, List.length_cons, List.length_nil, Nat.reduceAdd, and_true] at HC1; clear hF HC; have HC := HC1; have hF := Aside0.mk hF1; clear hF1 HC1
    go_wp2_with (first | ((with_reducible refine gate_store rfl ?_); apply Fr.fr_store hF.out rfl rfl rfl; (case hp => rfl); (case hx => first | (go_simp; rfl) | rfl); (case hu => (simp only [Value.cells]; rfl)); (case hs => (repeat (first | exact Fr.Spot.here _ _ | apply Fr.Spot.there))); (case ht => kernel_rfl); (case h1 => simp [Value.oneCell']); (case hfit => simp); intro W hF1; simp only [Fr.patch, List.take_zero, List.nil_append, List.drop, List.append_nil, List.take, List.cons_append, List.length_cons, List.length_nil, Nat.reduceAdd] at hF1; have HC1 := hF1.cells; simp only [Fr.Cells, List.length_cons, List.length_nil, Nat.reduceAdd, and_true] at HC1; clear hF HC; have HC := HC1; have hF := Aside0.mk hF1; clear hF1 HC1) | ((first | (with_reducible refine Fr.gate_alloc rfl ?_) | (with_reducible refine Fr.gate_box rfl ?_)); apply Fr.fr_box hF.out rfl; (case hrun => first | (go_simp; done) | (go_simp; rfl)); intro g W hF1; have HC1 := hF1.cells; simp only [Fr.Cells, List.length_cons, List.length_nil, Nat.reduceAdd, and_true] at HC1; clear hF HC; have HC := HC1; have hF := Aside0.mk hF1; clear hF1 HC1))
    go_ret
    exact ⟨rfl, hF.out.below⟩
set_option maxHeartbeats 4000000 in
set_option maxRecDepth 100000 in
theorem late_60 (c : Cf) (A0 : Option Addr) (c0 : Nat) (A1 : Option Addr) (c1 : Nat) (d : Dy) (A2 : Option Addr) (c2 : Nat) (now more : Int) (ok : Bool) (draw : Int) (w : World) (hr0 : Kd.C k76 w A0 c.rs.length c.rs) (hl0 : c.rs.length ≤ c0) (hr1 : Kd.C k58 w A1 c.ro.length c.ro) (hl1 : c.ro.length ≤ c1) (hr2 : Kd.C k92 w A2 d.ls.length d.ls) (hl2 : d.ls.length ≤ c2)
    (q : Cf) (hq : cutC c = q) (L : List S92) (hL : d.ls.take 5 = L) (nw mr : Int) (hnw : nowT now = nw) (hmr : moreT more = mr)
    (hS1 : ∀ W, Below w.heap.size w W → Calls Try.prog 48 #[.agg #[.slice A0 q.rs.length c0, .slice A1 q.ro.length c1, .int .i64 q.rep, .int .i64 q.beat], .agg #[.slice A2 L.length c2, .int .i64 d.ro, .int .i64 d.pl, .int .i64 d.tr, .int .i64 d.due, .int .i64 d.st], .int .i64 (nw), .bool ok, .int .i64 draw] W fun e w' => e = .returned (.tuple #[.agg #[.slice none 0 0, .int .i64 0, .int .i64 0, .int .i64 0, .int .i64 0, .int .i64 0], .bool false, .int .i64 6]) ∧ Below W.heap.size W w') (hS2 : ∀ W, Below w.heap.size w W → Calls Try.prog 48 #[.agg #[.slice A0 q.rs.length c0, .slice A1 q.ro.length c1, .int .i64 q.rep, .int .i64 q.beat], .agg #[.slice A2 L.length c2, .int .i64 d.ro, .int .i64 d.pl, .int .i64 d.tr, .int .i64 d.due, .int .i64 d.st], .int .i64 (nw + mr), .bool ok, .int .i64 draw] W fun e w' => ∃ (A : Option Addr) (n c : Nat) (r0 r1 r2 r3 r4 : Int) (g : Bool), e = .returned (.tuple #[.agg #[.slice A n c, .int .i64 r0, .int .i64 r1, .int .i64 r2, .int .i64 r3, .int .i64 r4], .bool g, .int .i64 0]) ∧ Below W.heap.size W w') :
    Calls Try.prog 11 #[.agg #[.slice A0 c.rs.length c0, .slice A1 c.ro.length c1, .int .i64 c.rep, .int .i64 c.beat], .agg #[.slice A2 d.ls.length c2, .int .i64 d.ro, .int .i64 d.pl, .int .i64 d.tr, .int .i64 d.due, .int .i64 d.st], .int .i64 now, .int .i64 more, .bool ok, .int .i64 draw] w fun e w' => e = .returned (.bool true) ∧ Below w.heap.size w w' := by
  have hm0 := hr0.2.1
  have hm1 := hr1.2.1
  have hm2 := hr2.2.1
  have hqL : Kd.C k92 w A2 L.length L := take_C 5 hr2 hL
  have hqLl : L.length ≤ c2 := by rw [← hL]; rw [List.length_take]; omega
  have hL5 : L.length ≤ 5 := by rw [← hL]; exact List.length_take_le 5 d.ls
  have H41 := Aside0.mk (fun W => few_calls 41 (.inr rfl) c A0 c0 A1 c1 W hl0 hl1 hm0 hm1)
  rw [hq] at H41
  have H50 := Aside0.mk (fun W => cut50_calls A2 c2 d.ls d.ro d.pl d.tr d.due d.st W hl2 hm2)
  rw [hL] at H50
  have HQL := Aside0.mk hqL
  have HQLL := Aside0.mk hqLl
  have HSAME := Aside0.mk (same16_ref L (by omega))
  have HS1 := Aside0.mk hS1
  have HS2 := Aside0.mk hS2
  have hnwi := now_in now
  have hmri := more_in more
  rw [hnw] at hnwi
  rw [hmr] at hmri
  have hnw2 : Int.tmod (IntKind.u64.wrap now) 274877906944 = nw := hnw
  have hmr2 : Int.tmod (IntKind.u64.wrap more) 1073741824 = mr := hmr
  have hnw3 : IntKind.i64.wrap nw = nw := by rw [IntKind.wrap_i64]; omega
  have hmr3 : IntKind.i64.wrap mr = mr := by rw [IntKind.wrap_i64]; omega
  obtain ⟨t2, ht2⟩ : ∃ t2, nw + mr = t2 := ⟨_, rfl⟩
  have HT2 := Aside0.mk ht2
  have hsum : wrap64 (nw + mr) = t2 := by rw [← ht2]; exact w64' (by omega) (by omega)
  rw [ht2] at HS2
  skip
  clear hr0 hl0 hr1 hl1 hr2 hl2 hq hL hm0 hm1 hm2 hqL hqLl hL5 hnw hmr hS1 hS2 ht2 hnwi hmri
  obtain ⟨Ls, ro, pl, tr, du, st⟩ := d
  dsimp only at H50 HS1 HS2 ⊢
  obtain ⟨n2, hn2⟩ : ∃ n2, L.length = n2 := ⟨_, rfl⟩
  have HN2 := Aside0.mk hn2
  rw [hn2] at H50 HS1 HS2
  clear hn2
  obtain ⟨nn2, hnn2⟩ : ∃ nn2, Ls.length = nn2 := ⟨_, rfl⟩
  rw [hnn2] at H50 ⊢
  clear hnn2
  obtain ⟨z0, hz0⟩ : ∃ z0, c.rs.length = z0 := ⟨_, rfl⟩
  rw [hz0] at H41 ⊢
  clear hz0
  obtain ⟨z1, hz1⟩ : ∃ z1, c.ro.length = z1 := ⟨_, rfl⟩
  rw [hz1] at H41 ⊢
  clear hz1
  have hF := Aside0.mk (Fr.Frame.start w)
  have HC : True := trivial
  go_enter Try.func11, Try.ntmps11
  go_wp2_with (first | ((with_reducible refine gate_store rfl ?_); apply Fr.fr_store hF.out rfl rfl rfl; (case hp => rfl); (case hx => first | (go_simp; rfl) | rfl); (case hu => (simp only [Value.cells]; rfl)); (case hs => (repeat (first | exact Fr.Spot.here _ _ | apply Fr.Spot.there))); (case ht => kernel_rfl); (case h1 => simp [Value.oneCell']); (case hfit => simp); intro W hF1; simp only [Fr.patch, List.take_zero, List.nil_append, List.drop, List.append_nil, List.take, List.cons_append, List.length_cons, List.length_nil, Nat.reduceAdd] at hF1; have HC1 := hF1.cells; simp only [Fr.Cells, List.length_cons, List.length_nil, Nat.reduceAdd, and_true] at HC1; clear hF HC; have HC := HC1; have hF := Aside0.mk hF1; clear hF1 HC1) | ((with_reducible refine gate_dst (N := 6) rfl ?_); apply Fr.fr_box hF.out rfl; (case hrun => first | (go_simp; done) | (go_simp; rfl)); intro gc W hF1; have HC1 := hF1.cells; simp only [Fr.Cells, List.length_cons, List.length_nil, Nat.reduceAdd, and_true] at HC1; clear hF HC; have HC := HC1; have hF := Aside0.mk hF1; clear hF1 HC1) | ((with_reducible refine gate_dst (N := 7) rfl ?_); apply Fr.fr_box hF.out rfl; (case hrun => first | (go_simp; done) | (go_simp; rfl)); intro gd W hF1; have HC1 := hF1.cells; simp only [Fr.Cells, List.length_cons, List.length_nil, Nat.reduceAdd, and_true] at HC1; clear hF HC; have HC := HC1; have hF := Aside0.mk hF1; clear hF1 HC1) | ((first | (with_reducible refine Fr.gate_alloc rfl ?_) | (with_reducible refine Fr.gate_box rfl ?_)); apply Fr.fr_box hF.out rfl; (case hrun => first | (go_simp; done) | (go_simp; rfl)); intro g W hF1; have HC1 := hF1.cells; simp only [Fr.Cells, List.length_cons, List.length_nil, Nat.reduceAdd, and_true] at HC1; clear hF HC; have HC := HC1; have hF := Aside0.mk hF1; clear hF1 HC1))
  have HF0 := Aside0.mk hF.out.drew
  have HD0 := HF0.out.cells
  simp only [Fr.Cells, List.length_cons, List.length_nil, Nat.reduceAdd, and_true] at HD0
  clear hF HC
  have HDRW := Aside0.mk (show W.drew.heap.size = W.heap.size from rfl)
  have hne : gd ≠ gc := fun e => by have := HF0.out.nodup; simp only [List.map_cons, List.nodup_cons] at this; exact this.1 (by rw [e]; exact List.mem_cons_self)
  have hne' : gc ≠ gd := fun e => hne e.symm
  go_region_with (first | (go_at_call 41; refine (H41.out _).mono ?_; rintro e Wa ⟨rfl, hb⟩; have HFa := Aside0.mk (HF0.out.call hb); clear hb HD0; have HDa := HFa.out.cells; simp only [Fr.Cells, List.length_cons, List.length_nil, Nat.reduceAdd, and_true] at HDa) | (go_at_call 50; refine (H50.out _).mono ?_; rintro e Wb ⟨rfl, hb⟩; have HFb := Aside0.mk (HFa.out.call hb); clear hb HDa; have HDb := HFb.out.cells; simp only [Fr.Cells, List.length_cons, List.length_nil, Nat.reduceAdd, and_true] at HDb))
  all_goals
    have hF1 : Fr.Frame w ((((((((((Wb.setCell ⟨gc, 0, none⟩ (.slice A0 q.rs.length c0)).setCell ⟨gc, 1, none⟩ (.slice A1 q.ro.length c1)).setCell ⟨gc, 2, none⟩ (.int .i64 q.rep)).setCell ⟨gc, 3, none⟩ (.int .i64 q.beat)).setCell ⟨gd, 0, none⟩ (.slice A2 n2 c2)).setCell ⟨gd, 1, none⟩ (.int .i64 ro)).setCell ⟨gd, 2, none⟩ (.int .i64 pl)).setCell ⟨gd, 3, none⟩ (.int .i64 tr)).setCell ⟨gd, 4, none⟩ (.int .i64 du)).setCell ⟨gd, 5, none⟩ (.int .i64 st)) [(gd, [.slice A2 n2 c2, .int .i64 ro, .int .i64 pl, .int .i64 tr, .int .i64 du, .int .i64 st], 69), (gc, [.slice A0 q.rs.length c0, .slice A1 q.ro.length c1, .int .i64 q.rep, .int .i64 q.beat], 53)] [] := (HFb.out.put (Fr.Spot.there _ (Fr.Spot.here _ _)) 0 [.slice A0 q.rs.length c0, .slice A1 q.ro.length c1, .int .i64 q.rep, .int .i64 q.beat] (by simp)).put (Fr.Spot.here _ _) 0 [.slice A2 n2 c2, .int .i64 ro, .int .i64 pl, .int .i64 tr, .int .i64 du, .int .i64 st] (by simp)
    clear HFb HFa HF0 HDb
    obtain ⟨W9, hW9⟩ : ∃ W9, ((((((((((Wb.setCell ⟨gc, 0, none⟩ (.slice A0 q.rs.length c0)).setCell ⟨gc, 1, none⟩ (.slice A1 q.ro.length c1)).setCell ⟨gc, 2, none⟩ (.int .i64 q.rep)).setCell ⟨gc, 3, none⟩ (.int .i64 q.beat)).setCell ⟨gd, 0, none⟩ (.slice A2 n2 c2)).setCell ⟨gd, 1, none⟩ (.int .i64 ro)).setCell ⟨gd, 2, none⟩ (.int .i64 pl)).setCell ⟨gd, 3, none⟩ (.int .i64 tr)).setCell ⟨gd, 4, none⟩ (.int .i64 du)).setCell ⟨gd, 5, none⟩ (.int .i64 st)) = W9 := ⟨_, rfl⟩
    rw [hW9] at hF1 ⊢
    clear hW9
    have hF : True := trivial
    have HC : True := trivial
    have HC1 := hF1.cells; simp only [Fr.Cells, List.length_cons, List.length_nil, Nat.reduceAdd, and_true] at HC1; clear hF HC; have HC := HC1; have hF := Aside0.mk hF1; clear hF1 HC1
    go_wp2_with (first | ((with_reducible refine gate_store rfl ?_); apply Fr.fr_store hF.out rfl rfl rfl; (case hp => rfl); (case hx => first | (go_simp; rfl) | rfl); (case hu => (simp only [Value.cells]; rfl)); (case hs => (repeat (first | exact Fr.Spot.here _ _ | apply Fr.Spot.there))); (case ht => kernel_rfl); (case h1 => simp [Value.oneCell']); (case hfit => simp); intro W hF1; simp only [Fr.patch, List.take_zero, List.nil_append, List.drop, List.append_nil, List.take, List.cons_append, List.length_cons, List.length_nil, Nat.reduceAdd] at hF1; have HC1 := hF1.cells; simp only [Fr.Cells, List.length_cons, List.length_nil, Nat.reduceAdd, and_true] at HC1; clear hF HC; have HC := HC1; have hF := Aside0.mk hF1; clear hF1 HC1) | ((first | (with_reducible refine Fr.gate_alloc rfl ?_) | (with_reducible refine Fr.gate_box rfl ?_)); apply Fr.fr_box hF.out rfl; (case hrun => first | (go_simp; done) | (go_simp; rfl)); intro g W hF1; have HC1 := hF1.cells; simp only [Fr.Cells, List.length_cons, List.length_nil, Nat.reduceAdd, and_true] at HC1; clear hF HC; have HC := HC1; have hF := Aside0.mk hF1; clear hF1 HC1))
    (with_reducible refine (HS1.out _ hF.out.below).mono ?_); rintro e W ⟨rfl, hb⟩; have hF1 := hF.out.call hb; clear hb; have HC1 := hF1.cells; simp only [Fr.Cells, List.length_cons, List.length_nil, Nat.reduceAdd, and_true] at HC1; clear hF HC; have HC := HC1; have hF := Aside0.mk hF1; clear hF1 HC1
    go_wp2_with (first | ((with_reducible refine gate_store rfl ?_); apply Fr.fr_store hF.out rfl rfl rfl; (case hp => rfl); (case hx => first | (go_simp; rfl) | rfl); (case hu => (simp only [Value.cells]; rfl)); (case hs => (repeat (first | exact Fr.Spot.here _ _ | apply Fr.Spot.there))); (case ht => kernel_rfl); (case h1 => simp [Value.oneCell']); (case hfit => simp); intro W hF1; simp only [Fr.patch, List.take_zero, List.nil_append, List.drop, List.append_nil, List.take, List.cons_append, List.length_cons, List.length_nil, Nat.reduceAdd] at hF1; have HC1 := hF1.cells; simp only [Fr.Cells, List.length_cons, List.length_nil, Nat.reduceAdd, and_true] at HC1; clear hF HC; have HC := HC1; have hF := Aside0.mk hF1; clear hF1 HC1) | ((first | (with_reducible refine Fr.gate_alloc rfl ?_) | (with_reducible refine Fr.gate_box rfl ?_)); apply Fr.fr_box hF.out rfl; (case hrun => first | (go_simp; done) | (go_simp; rfl)); intro g W hF1; have HC1 := hF1.cells; simp only [Fr.Cells, List.length_cons, List.length_nil, Nat.reduceAdd, and_true] at HC1; clear hF HC; have HC := HC1; have hF := Aside0.mk hF1; clear hF1 HC1))
    (with_reducible refine (HS2.out _ hF.out.below).mono ?_)
    rintro e W ⟨A9, n9, c9, y0, y1, y2, y3, y4, g9, rfl, hb⟩
    have hF1 := hF.out.call hb
    clear hb
    have HC1 := hF1.cells; simp only [Fr.Cells, List.length_cons, List.length_nil, Nat.reduceAdd, and_true] at HC1; clear hF HC; have HC := HC1; have hF := Aside0.mk hF1; clear hF1 HC1
    go_wp2_with (first | ((with_reducible refine gate_store rfl ?_); apply Fr.fr_store hF.out rfl rfl rfl; (case hp => rfl); (case hx => first | (go_simp; rfl) | rfl); (case hu => (simp only [Value.cells]; rfl)); (case hs => (repeat (first | exact Fr.Spot.here _ _ | apply Fr.Spot.there))); (case ht => kernel_rfl); (case h1 => simp [Value.oneCell']); (case hfit => simp); intro W hF1; simp only [Fr.patch, List.take_zero, List.nil_append, List.drop, List.append_nil, List.take, List.cons_append, List.length_cons, List.length_nil, Nat.reduceAdd] at hF1; have HC1 := hF1.cells; simp only [Fr.Cells, List.length_cons, List.length_nil, Nat.reduceAdd, and_true] at HC1; clear hF HC; have HC := HC1; have hF := Aside0.mk hF1; clear hF1 HC1) | ((first | (with_reducible refine Fr.gate_alloc rfl ?_) | (with_reducible refine Fr.gate_box rfl ?_)); apply Fr.fr_box hF.out rfl; (case hrun => first | (go_simp; done) | (go_simp; rfl)); intro g W hF1; have HC1 := hF1.cells; simp only [Fr.Cells, List.length_cons, List.length_nil, Nat.reduceAdd, and_true] at HC1; clear hF HC; have HC := HC1; have hF := Aside0.mk hF1; clear hF1 HC1))
    (with_reducible refine (alive44_calls _).mono ?_); rintro e W ⟨rfl, hb⟩; have hF1 := hF.out.call hb; clear hb; have HC1 := hF1.cells; simp only [Fr.Cells, List.length_cons, List.length_nil, Nat.reduceAdd, and_true] at HC1; clear hF HC; have HC := HC1; have hF := Aside0.mk hF1; clear hF1 HC1
    go_wp2_with (first | ((with_reducible refine gate_store rfl ?_); apply Fr.fr_store hF.out rfl rfl rfl; (case hp => rfl); (case hx => first | (go_simp; rfl) | rfl); (case hu => (simp only [Value.cells]; rfl)); (case hs => (repeat (first | exact Fr.Spot.here _ _ | apply Fr.Spot.there))); (case ht => kernel_rfl); (case h1 => simp [Value.oneCell']); (case hfit => simp); intro W hF1; simp only [Fr.patch, List.take_zero, List.nil_append, List.drop, List.append_nil, List.take, List.cons_append, List.length_cons, List.length_nil, Nat.reduceAdd] at hF1; have HC1 := hF1.cells; simp only [Fr.Cells, List.length_cons, List.length_nil, Nat.reduceAdd, and_true] at HC1; clear hF HC; have HC := HC1; have hF := Aside0.mk hF1; clear hF1 HC1) | ((first | (with_reducible refine Fr.gate_alloc rfl ?_) | (with_reducible refine Fr.gate_box rfl ?_)); apply Fr.fr_box hF.out rfl; (case hrun => first | (go_simp; done) | (go_simp; rfl)); intro g W hF1; have HC1 := hF1.cells; simp only [Fr.Cells, List.length_cons, List.length_nil, Nat.reduceAdd, and_true] at HC1; clear hF HC; have HC := HC1; have hF := Aside0.mk hF1; clear hF1 HC1))
    (with_reducible refine (same_zero _).mono ?_); rintro e W ⟨rfl, hb⟩; have hF1 := hF.out.call hb; clear hb; have HC1 := hF1.cells; simp only [Fr.Cells, List.length_cons, List.length_nil, Nat.reduceAdd, and_true] at HC1; clear hF HC; have HC := HC1; have hF := Aside0.mk hF1; clear hF1 HC1
    go_wp2_with (first | ((with_reducible refine gate_store rfl ?_); apply Fr.fr_store hF.out rfl rfl rfl; (case hp => rfl); (case hx => first | (go_simp; rfl) | rfl); (case hu => (simp only [Value.cells]; rfl)); (case hs => (repeat (first | exact Fr.Spot.here _ _ | apply Fr.Spot.there))); (case ht => kernel_rfl); (case h1 => simp [Value.oneCell']); (case hfit => simp); intro W hF1; simp only [Fr.patch, List.take_zero, List.nil_append, List.drop, List.append_nil, List.take, List.cons_append, List.length_cons, List.length_nil, Nat.reduceAdd] at hF1; have HC1 := hF1.cells; simp only [Fr.Cells, List.length_cons, List.length_nil, Nat.reduceAdd, and_true] at HC1; clear hF HC; have HC := HC1; have hF := Aside0.mk hF1; clear hF1 HC1) | ((first | (with_reducible refine Fr.gate_alloc rfl ?_) | (with_reducible refine Fr.gate_box rfl ?_)); apply Fr.fr_box hF.out rfl; (case hrun => first | (go_simp; done) | (go_simp; rfl)); intro g W hF1; have HC1 := hF1.cells; simp only [Fr.Cells, List.length_cons, List.length_nil, Nat.reduceAdd, and_true] at HC1; clear hF HC; have HC := HC1; have hF := Aside0.mk hF1; clear hF1 HC1))
    go_ret
    exact ⟨rfl, hF.out.below⟩
set_option maxHeartbeats 4000000 in
set_option maxRecDepth 100000 in
theorem late_gone (c : Cf) (A0 : Option Addr) (c0 : Nat) (A1 : Option Addr) (c1 : Nat) (d : Dy) (A2 : Option Addr) (c2 : Nat) (now more : Int) (ok : Bool) (draw : Int) (w : World) (hr0 : Kd.C k76 w A0 c.rs.length c.rs) (hl0 : c.rs.length ≤ c0) (hr1 : Kd.C k58 w A1 c.ro.length c.ro) (hl1 : c.ro.length ≤ c1) (hr2 : Kd.C k92 w A2 d.ls.length d.ls) (hl2 : d.ls.length ≤ c2)
    (q : Cf) (hq : cutC c = q) (L : List S92) (hL : d.ls.take 5 = L) (nw mr : Int) (hnw : nowT now = nw) (hmr : moreT more = mr)
    (hS1 : ∀ W, Below w.heap.size w W → Calls Try.prog 48 #[.agg #[.slice A0 q.rs.length c0, .slice A1 q.ro.length c1, .int .i64 q.rep, .int .i64 q.beat], .agg #[.slice A2 L.length c2, .int .i64 d.ro, .int .i64 d.pl, .int .i64 d.tr, .int .i64 d.due, .int .i64 d.st], .int .i64 (nw), .bool true, .int .i64 draw] W fun e w' => e = .returned (.tuple #[.agg #[.slice none 0 0, .int .i64 0, .int .i64 0, .int .i64 0, .int .i64 0, .int .i64 0], .bool true, .int .i64 0]) ∧ Below W.heap.size W w') (hS2 : ∀ W, Below w.heap.size w W → Calls Try.prog 48 #[.agg #[.slice A0 q.rs.length c0, .slice A1 q.ro.length c1, .int .i64 q.rep, .int .i64 q.beat], .agg #[.slice A2 L.length c2, .int .i64 d.ro, .int .i64 d.pl, .int .i64 d.tr, .int .i64 d.due, .int .i64 d.st], .int .i64 (nw + mr), .bool true, .int .i64 draw] W fun e w' => e = .returned (.tuple #[.agg #[.slice none 0 0, .int .i64 0, .int .i64 0, .int .i64 0, .int .i64 0, .int .i64 0], .bool true, .int .i64 0]) ∧ Below W.heap.size W w') (hst : d.st = 3) :
    Calls Try.prog 11 #[.agg #[.slice A0 c.rs.length c0, .slice A1 c.ro.length c1, .int .i64 c.rep, .int .i64 c.beat], .agg #[.slice A2 d.ls.length c2, .int .i64 d.ro, .int .i64 d.pl, .int .i64 d.tr, .int .i64 d.due, .int .i64 d.st], .int .i64 now, .int .i64 more, .bool true, .int .i64 draw] w fun e w' => e = .returned (.bool true) ∧ Below w.heap.size w w' := by
  have hm0 := hr0.2.1
  have hm1 := hr1.2.1
  have hm2 := hr2.2.1
  have hqL : Kd.C k92 w A2 L.length L := take_C 5 hr2 hL
  have hqLl : L.length ≤ c2 := by rw [← hL]; rw [List.length_take]; omega
  have hL5 : L.length ≤ 5 := by rw [← hL]; exact List.length_take_le 5 d.ls
  have H41 := Aside0.mk (fun W => few_calls 41 (.inr rfl) c A0 c0 A1 c1 W hl0 hl1 hm0 hm1)
  rw [hq] at H41
  have H50 := Aside0.mk (fun W => cut50_calls A2 c2 d.ls d.ro d.pl d.tr d.due d.st W hl2 hm2)
  rw [hL] at H50
  have HQL := Aside0.mk hqL
  have HQLL := Aside0.mk hqLl
  have HSAME := Aside0.mk (same16_ref L (by omega))
  have HS1 := Aside0.mk hS1
  have HS2 := Aside0.mk hS2
  have hnwi := now_in now
  have hmri := more_in more
  rw [hnw] at hnwi
  rw [hmr] at hmri
  have hnw2 : Int.tmod (IntKind.u64.wrap now) 274877906944 = nw := hnw
  have hmr2 : Int.tmod (IntKind.u64.wrap more) 1073741824 = mr := hmr
  have hnw3 : IntKind.i64.wrap nw = nw := by rw [IntKind.wrap_i64]; omega
  have hmr3 : IntKind.i64.wrap mr = mr := by rw [IntKind.wrap_i64]; omega
  obtain ⟨t2, ht2⟩ : ∃ t2, nw + mr = t2 := ⟨_, rfl⟩
  have HT2 := Aside0.mk ht2
  have hsum : wrap64 (nw + mr) = t2 := by rw [← ht2]; exact w64' (by omega) (by omega)
  rw [ht2] at HS2
  skip
  clear hr0 hl0 hr1 hl1 hr2 hl2 hq hL hm0 hm1 hm2 hqL hqLl hL5 hnw hmr hS1 hS2 ht2 hnwi hmri
  obtain ⟨Ls, ro, pl, tr, du, st⟩ := d
  obtain rfl : st = 3 := hst
  dsimp only at H50 HS1 HS2 ⊢
  obtain ⟨n2, hn2⟩ : ∃ n2, L.length = n2 := ⟨_, rfl⟩
  have HN2 := Aside0.mk hn2
  rw [hn2] at H50 HS1 HS2
  clear hn2
  obtain ⟨nn2, hnn2⟩ : ∃ nn2, Ls.length = nn2 := ⟨_, rfl⟩
  rw [hnn2] at H50 ⊢
  clear hnn2
  obtain ⟨z0, hz0⟩ : ∃ z0, c.rs.length = z0 := ⟨_, rfl⟩
  rw [hz0] at H41 ⊢
  clear hz0
  obtain ⟨z1, hz1⟩ : ∃ z1, c.ro.length = z1 := ⟨_, rfl⟩
  rw [hz1] at H41 ⊢
  clear hz1
  have hF := Aside0.mk (Fr.Frame.start w)
  have HC : True := trivial
  go_enter Try.func11, Try.ntmps11
  go_wp2_with (first | ((with_reducible refine gate_store rfl ?_); apply Fr.fr_store hF.out rfl rfl rfl; (case hp => rfl); (case hx => first | (go_simp; rfl) | rfl); (case hu => (simp only [Value.cells]; rfl)); (case hs => (repeat (first | exact Fr.Spot.here _ _ | apply Fr.Spot.there))); (case ht => kernel_rfl); (case h1 => simp [Value.oneCell']); (case hfit => simp); intro W hF1; simp only [Fr.patch, List.take_zero, List.nil_append, List.drop, List.append_nil, List.take, List.cons_append, List.length_cons, List.length_nil, Nat.reduceAdd] at hF1; have HC1 := hF1.cells; simp only [Fr.Cells, List.length_cons, List.length_nil, Nat.reduceAdd, and_true] at HC1; clear hF HC; have HC := HC1; have hF := Aside0.mk hF1; clear hF1 HC1) | ((with_reducible refine gate_dst (N := 6) rfl ?_); apply Fr.fr_box hF.out rfl; (case hrun => first | (go_simp; done) | (go_simp; rfl)); intro gc W hF1; have HC1 := hF1.cells; simp only [Fr.Cells, List.length_cons, List.length_nil, Nat.reduceAdd, and_true] at HC1; clear hF HC; have HC := HC1; have hF := Aside0.mk hF1; clear hF1 HC1) | ((with_reducible refine gate_dst (N := 7) rfl ?_); apply Fr.fr_box hF.out rfl; (case hrun => first | (go_simp; done) | (go_simp; rfl)); intro gd W hF1; have HC1 := hF1.cells; simp only [Fr.Cells, List.length_cons, List.length_nil, Nat.reduceAdd, and_true] at HC1; clear hF HC; have HC := HC1; have hF := Aside0.mk hF1; clear hF1 HC1) | ((first | (with_reducible refine Fr.gate_alloc rfl ?_) | (with_reducible refine Fr.gate_box rfl ?_)); apply Fr.fr_box hF.out rfl; (case hrun => first | (go_simp; done) | (go_simp; rfl)); intro g W hF1; have HC1 := hF1.cells; simp only [Fr.Cells, List.length_cons, List.length_nil, Nat.reduceAdd, and_true] at HC1; clear hF HC; have HC := HC1; have hF := Aside0.mk hF1; clear hF1 HC1))
  have HF0 := Aside0.mk hF.out.drew
  have HD0 := HF0.out.cells
  simp only [Fr.Cells, List.length_cons, List.length_nil, Nat.reduceAdd, and_true] at HD0
  clear hF HC
  have HDRW := Aside0.mk (show W.drew.heap.size = W.heap.size from rfl)
  have hne : gd ≠ gc := fun e => by have := HF0.out.nodup; simp only [List.map_cons, List.nodup_cons] at this; exact this.1 (by rw [e]; exact List.mem_cons_self)
  have hne' : gc ≠ gd := fun e => hne e.symm
  go_region_with (first | (go_at_call 41; refine (H41.out _).mono ?_; rintro e Wa ⟨rfl, hb⟩; have HFa := Aside0.mk (HF0.out.call hb); clear hb HD0; have HDa := HFa.out.cells; simp only [Fr.Cells, List.length_cons, List.length_nil, Nat.reduceAdd, and_true] at HDa) | (go_at_call 50; refine (H50.out _).mono ?_; rintro e Wb ⟨rfl, hb⟩; have HFb := Aside0.mk (HFa.out.call hb); clear hb HDa; have HDb := HFb.out.cells; simp only [Fr.Cells, List.length_cons, List.length_nil, Nat.reduceAdd, and_true] at HDb))
  all_goals
    have hF1 : Fr.Frame w ((((((((((Wb.setCell ⟨gc, 0, none⟩ (.slice A0 q.rs.length c0)).setCell ⟨gc, 1, none⟩ (.slice A1 q.ro.length c1)).setCell ⟨gc, 2, none⟩ (.int .i64 q.rep)).setCell ⟨gc, 3, none⟩ (.int .i64 q.beat)).setCell ⟨gd, 0, none⟩ (.slice A2 n2 c2)).setCell ⟨gd, 1, none⟩ (.int .i64 ro)).setCell ⟨gd, 2, none⟩ (.int .i64 pl)).setCell ⟨gd, 3, none⟩ (.int .i64 tr)).setCell ⟨gd, 4, none⟩ (.int .i64 du)).setCell ⟨gd, 5, none⟩ (.int .i64 3)) [(gd, [.slice A2 n2 c2, .int .i64 ro, .int .i64 pl, .int .i64 tr, .int .i64 du, .int .i64 3], 69), (gc, [.slice A0 q.rs.length c0, .slice A1 q.ro.length c1, .int .i64 q.rep, .int .i64 q.beat], 53)] [] := (HFb.out.put (Fr.Spot.there _ (Fr.Spot.here _ _)) 0 [.slice A0 q.rs.length c0, .slice A1 q.ro.length c1, .int .i64 q.rep, .int .i64 q.beat] (by simp)).put (Fr.Spot.here _ _) 0 [.slice A2 n2 c2, .int .i64 ro, .int .i64 pl, .int .i64 tr, .int .i64 du, .int .i64 3] (by simp)
    clear HFb HFa HF0 HDb
    obtain ⟨W9, hW9⟩ : ∃ W9, ((((((((((Wb.setCell ⟨gc, 0, none⟩ (.slice A0 q.rs.length c0)).setCell ⟨gc, 1, none⟩ (.slice A1 q.ro.length c1)).setCell ⟨gc, 2, none⟩ (.int .i64 q.rep)).setCell ⟨gc, 3, none⟩ (.int .i64 q.beat)).setCell ⟨gd, 0, none⟩ (.slice A2 n2 c2)).setCell ⟨gd, 1, none⟩ (.int .i64 ro)).setCell ⟨gd, 2, none⟩ (.int .i64 pl)).setCell ⟨gd, 3, none⟩ (.int .i64 tr)).setCell ⟨gd, 4, none⟩ (.int .i64 du)).setCell ⟨gd, 5, none⟩ (.int .i64 3)) = W9 := ⟨_, rfl⟩
    rw [hW9] at hF1 ⊢
    clear hW9
    have hF : True := trivial
    have HC : True := trivial
    have HC1 := hF1.cells; simp only [Fr.Cells, List.length_cons, List.length_nil, Nat.reduceAdd, and_true] at HC1; clear hF HC; have HC := HC1; have hF := Aside0.mk hF1; clear hF1 HC1
    go_wp2_with (first | ((with_reducible refine gate_store rfl ?_); apply Fr.fr_store hF.out rfl rfl rfl; (case hp => rfl); (case hx => first | (go_simp; rfl) | rfl); (case hu => (simp only [Value.cells]; rfl)); (case hs => (repeat (first | exact Fr.Spot.here _ _ | apply Fr.Spot.there))); (case ht => kernel_rfl); (case h1 => simp [Value.oneCell']); (case hfit => simp); intro W hF1; simp only [Fr.patch, List.take_zero, List.nil_append, List.drop, List.append_nil, List.take, List.cons_append, List.length_cons, List.length_nil, Nat.reduceAdd] at hF1; have HC1 := hF1.cells; simp only [Fr.Cells, List.length_cons, List.length_nil, Nat.reduceAdd, and_true] at HC1; clear hF HC; have HC := HC1; have hF := Aside0.mk hF1; clear hF1 HC1) | ((first | (with_reducible refine Fr.gate_alloc rfl ?_) | (with_reducible refine Fr.gate_box rfl ?_)); apply Fr.fr_box hF.out rfl; (case hrun => first | (go_simp; done) | (go_simp; rfl)); intro g W hF1; have HC1 := hF1.cells; simp only [Fr.Cells, List.length_cons, List.length_nil, Nat.reduceAdd, and_true] at HC1; clear hF HC; have HC := HC1; have hF := Aside0.mk hF1; clear hF1 HC1))
    (with_reducible refine (HS1.out _ hF.out.below).mono ?_); rintro e W ⟨rfl, hb⟩; have hF1 := hF.out.call hb; clear hb; have HC1 := hF1.cells; simp only [Fr.Cells, List.length_cons, List.length_nil, Nat.reduceAdd, and_true] at HC1; clear hF HC; have HC := HC1; have hF := Aside0.mk hF1; clear hF1 HC1
    go_wp2_with (first | ((with_reducible refine gate_store rfl ?_); apply Fr.fr_store hF.out rfl rfl rfl; (case hp => rfl); (case hx => first | (go_simp; rfl) | rfl); (case hu => (simp only [Value.cells]; rfl)); (case hs => (repeat (first | exact Fr.Spot.here _ _ | apply Fr.Spot.there))); (case ht => kernel_rfl); (case h1 => simp [Value.oneCell']); (case hfit => simp); intro W hF1; simp only [Fr.patch, List.take_zero, List.nil_append, List.drop, List.append_nil, List.take, List.cons_append, List.length_cons, List.length_nil, Nat.reduceAdd] at hF1; have HC1 := hF1.cells; simp only [Fr.Cells, List.length_cons, List.length_nil, Nat.reduceAdd, and_true] at HC1; clear hF HC; have HC := HC1; have hF := Aside0.mk hF1; clear hF1 HC1) | ((first | (with_reducible refine Fr.gate_alloc rfl ?_) | (with_reducible refine Fr.gate_box rfl ?_)); apply Fr.fr_box hF.out rfl; (case hrun => first | (go_simp; done) | (go_simp; rfl)); intro g W hF1; have HC1 := hF1.cells; simp only [Fr.Cells, List.length_cons, List.length_nil, Nat.reduceAdd, and_true] at HC1; clear hF HC; have HC := HC1; have hF := Aside0.mk hF1; clear hF1 HC1))
    (with_reducible refine (HS2.out _ hF.out.below).mono ?_); rintro e W ⟨rfl, hb⟩; have hF1 := hF.out.call hb; clear hb; have HC1 := hF1.cells; simp only [Fr.Cells, List.length_cons, List.length_nil, Nat.reduceAdd, and_true] at HC1; clear hF HC; have HC := HC1; have hF := Aside0.mk hF1; clear hF1 HC1
    go_wp2_with (first | ((with_reducible refine gate_store rfl ?_); apply Fr.fr_store hF.out rfl rfl rfl; (case hp => rfl); (case hx => first | (go_simp; rfl) | rfl); (case hu => (simp only [Value.cells]; rfl)); (case hs => (repeat (first | exact Fr.Spot.here _ _ | apply Fr.Spot.there))); (case ht => kernel_rfl); (case h1 => simp [Value.oneCell']); (case hfit => simp); intro W hF1; simp only [Fr.patch, List.take_zero, List.nil_append, List.drop, List.append_nil, List.take, List.cons_append, List.length_cons, List.length_nil, Nat.reduceAdd] at hF1; have HC1 := hF1.cells; simp only [Fr.Cells, List.length_cons, List.length_nil, Nat.reduceAdd, and_true] at HC1; clear hF HC; have HC := HC1; have hF := Aside0.mk hF1; clear hF1 HC1) | ((first | (with_reducible refine Fr.gate_alloc rfl ?_) | (with_reducible refine Fr.gate_box rfl ?_)); apply Fr.fr_box hF.out rfl; (case hrun => first | (go_simp; done) | (go_simp; rfl)); intro g W hF1; have HC1 := hF1.cells; simp only [Fr.Cells, List.length_cons, List.length_nil, Nat.reduceAdd, and_true] at HC1; clear hF HC; have HC := HC1; have hF := Aside0.mk hF1; clear hF1 HC1))
    (with_reducible refine (alive44_calls _).mono ?_); rintro e W ⟨rfl, hb⟩; have hF1 := hF.out.call hb; clear hb; have HC1 := hF1.cells; simp only [Fr.Cells, List.length_cons, List.length_nil, Nat.reduceAdd, and_true] at HC1; clear hF HC; have HC := HC1; have hF := Aside0.mk hF1; clear hF1 HC1
    go_wp2_with (first | ((with_reducible refine gate_store rfl ?_); apply Fr.fr_store hF.out rfl rfl rfl; (case hp => rfl); (case hx => first | (go_simp; rfl) | rfl); (case hu => (simp only [Value.cells]; rfl)); (case hs => (repeat (first | exact Fr.Spot.here _ _ | apply Fr.Spot.there))); (case ht => kernel_rfl); (case h1 => simp [Value.oneCell']); (case hfit => simp); intro W hF1; simp only [Fr.patch, List.take_zero, List.nil_append, List.drop, List.append_nil, List.take, List.cons_append, List.length_cons, List.length_nil, Nat.reduceAdd] at hF1; have HC1 := hF1.cells; simp only [Fr.Cells, List.length_cons, List.length_nil, Nat.reduceAdd, and_true] at HC1; clear hF HC; have HC := HC1; have hF := Aside0.mk hF1; clear hF1 HC1) | ((first | (with_reducible refine Fr.gate_alloc rfl ?_) | (with_reducible refine Fr.gate_box rfl ?_)); apply Fr.fr_box hF.out rfl; (case hrun => first | (go_simp; done) | (go_simp; rfl)); intro g W hF1; have HC1 := hF1.cells; simp only [Fr.Cells, List.length_cons, List.length_nil, Nat.reduceAdd, and_true] at HC1; clear hF HC; have HC := HC1; have hF := Aside0.mk hF1; clear hF1 HC1))
    go_ret
    exact ⟨rfl, hF.out.below⟩
set_option maxHeartbeats 4000000 in
set_option maxRecDepth 100000 in
theorem late_ok (c : Cf) (A0 : Option Addr) (c0 : Nat) (A1 : Option Addr) (c1 : Nat) (d : Dy) (A2 : Option Addr) (c2 : Nat) (now more : Int) (ok : Bool) (draw : Int) (w : World) (hr0 : Kd.C k76 w A0 c.rs.length c.rs) (hl0 : c.rs.length ≤ c0) (hr1 : Kd.C k58 w A1 c.ro.length c.ro) (hl1 : c.ro.length ≤ c1) (hr2 : Kd.C k92 w A2 d.ls.length d.ls) (hl2 : d.ls.length ≤ c2)
    (q : Cf) (hq : cutC c = q) (L : List S92) (hL : d.ls.take 5 = L) (nw mr : Int) (hnw : nowT now = nw) (hmr : moreT more = mr)
    (pl2 tr2 st2 du1 du2 : Int) (hS1 : ∀ W, Below w.heap.size w W → Calls Try.prog 48 #[.agg #[.slice A0 q.rs.length c0, .slice A1 q.ro.length c1, .int .i64 q.rep, .int .i64 q.beat], .agg #[.slice A2 L.length c2, .int .i64 d.ro, .int .i64 d.pl, .int .i64 d.tr, .int .i64 d.due, .int .i64 d.st], .int .i64 (nw), .bool ok, .int .i64 draw] W fun e w' => e = .returned (.tuple #[.agg #[.slice A2 L.length c2, .int .i64 d.ro, .int .i64 pl2, .int .i64 tr2, .int .i64 du1, .int .i64 st2], .bool false, .int .i64 0]) ∧ Below W.heap.size W w') (hS2 : ∀ W, Below w.heap.size w W → Calls Try.prog 48 #[.agg #[.slice A0 q.rs.length c0, .slice A1 q.ro.length c1, .int .i64 q.rep, .int .i64 q.beat], .agg #[.slice A2 L.length c2, .int .i64 d.ro, .int .i64 d.pl, .int .i64 d.tr, .int .i64 d.due, .int .i64 d.st], .int .i64 (nw + mr), .bool ok, .int .i64 draw] W fun e w' => e = .returned (.tuple #[.agg #[.slice A2 L.length c2, .int .i64 d.ro, .int .i64 pl2, .int .i64 tr2, .int .i64 du2, .int .i64 st2], .bool false, .int .i64 0]) ∧ Below W.heap.size W w') (hwf : ∀ x ∈ c.ro, WfR x) (hdd : du1 + mr = du2) (hdt : nw + mr < du2) (hd9 : tmB du2 = true) (hdb : dutyB q ⟨L, d.ro, pl2, tr2, du2, st2⟩ = true) :
    Calls Try.prog 11 #[.agg #[.slice A0 c.rs.length c0, .slice A1 c.ro.length c1, .int .i64 c.rep, .int .i64 c.beat], .agg #[.slice A2 d.ls.length c2, .int .i64 d.ro, .int .i64 d.pl, .int .i64 d.tr, .int .i64 d.due, .int .i64 d.st], .int .i64 now, .int .i64 more, .bool ok, .int .i64 draw] w fun e w' => e = .returned (.bool true) ∧ Below w.heap.size w w' := by
  have hm0 := hr0.2.1
  have hm1 := hr1.2.1
  have hm2 := hr2.2.1
  have hqL : Kd.C k92 w A2 L.length L := take_C 5 hr2 hL
  have hqLl : L.length ≤ c2 := by rw [← hL]; rw [List.length_take]; omega
  have hL5 : L.length ≤ 5 := by rw [← hL]; exact List.length_take_le 5 d.ls
  have H41 := Aside0.mk (fun W => few_calls 41 (.inr rfl) c A0 c0 A1 c1 W hl0 hl1 hm0 hm1)
  rw [hq] at H41
  have H50 := Aside0.mk (fun W => cut50_calls A2 c2 d.ls d.ro d.pl d.tr d.due d.st W hl2 hm2)
  rw [hL] at H50
  have HQL := Aside0.mk hqL
  have HQLL := Aside0.mk hqLl
  have HSAME := Aside0.mk (same16_ref L (by omega))
  have HS1 := Aside0.mk hS1
  have HS2 := Aside0.mk hS2
  have hnwi := now_in now
  have hmri := more_in more
  rw [hnw] at hnwi
  rw [hmr] at hmri
  have hnw2 : Int.tmod (IntKind.u64.wrap now) 274877906944 = nw := hnw
  have hmr2 : Int.tmod (IntKind.u64.wrap more) 1073741824 = mr := hmr
  have hnw3 : IntKind.i64.wrap nw = nw := by rw [IntKind.wrap_i64]; omega
  have hmr3 : IntKind.i64.wrap mr = mr := by rw [IntKind.wrap_i64]; omega
  obtain ⟨t2, ht2⟩ : ∃ t2, nw + mr = t2 := ⟨_, rfl⟩
  have HT2 := Aside0.mk ht2
  have hsum : wrap64 (nw + mr) = t2 := by rw [← ht2]; exact w64' (by omega) (by omega)
  rw [ht2] at HS2
  have hq0 : Kd.C k76 w A0 q.rs.length q.rs := take_C 6 hr0 (by rw [← hq]; rfl)
  have hq1 : Kd.C k58 w A1 q.ro.length q.ro := take_C 6 hr1 (by rw [← hq]; rfl)
  have hq0l : q.rs.length ≤ c0 := by rw [← hq]; show (c.rs.take 6).length ≤ c0; rw [List.length_take]; omega
  have hqwf : ∀ x ∈ q.ro, WfR x := fun x hx => hwf x (by rw [← hq] at hx; exact List.mem_of_mem_take hx)
  have HRT := Aside0.mk (fun W (hb : Below w.heap.size w W) => dutyRight_calls q A0 c0 A1 c1 ⟨L, d.ro, pl2, tr2, du2, st2⟩ A2 c2 W (Kd.C_below hq0 hb) hq0l (Kd.C_below hq1 hb) hqwf (Kd.C_below hqL hb))
  rw [hdb] at HRT
  have HSM := Aside0.mk (fun W (hb : Below w.heap.size w W) => foghornref16_Same.calls 1001 A2 c2 L d.ro pl2 tr2 du2 st2 A2 c2 L d.ro pl2 tr2 du2 st2 true W (Kd.C_below hqL hb) hqLl (Kd.C_below hqL hb) hqLl (same16_ref L (by omega) _ _ _ _ _))
  have hd9' := (tm_iff du2).1 hd9
  have hdsum : wrap64 (du1 + mr) = du2 := by rw [hdd]; exact w64' (by omega) (by omega)
  rw [ht2] at hdt
  clear hq0 hq1 hq0l hqwf hwf hdd hd9 hd9' hdb
  clear hr0 hl0 hr1 hl1 hr2 hl2 hq hL hm0 hm1 hm2 hqL hqLl hL5 hnw hmr hS1 hS2 ht2 hnwi hmri
  obtain ⟨Ls, ro, pl, tr, du, st⟩ := d
  dsimp only at H50 HS1 HS2 HRT HSM ⊢
  obtain ⟨n2, hn2⟩ : ∃ n2, L.length = n2 := ⟨_, rfl⟩
  have HN2 := Aside0.mk hn2
  rw [hn2] at H50 HS1 HS2 HRT HSM
  clear hn2
  obtain ⟨nn2, hnn2⟩ : ∃ nn2, Ls.length = nn2 := ⟨_, rfl⟩
  rw [hnn2] at H50 ⊢
  clear hnn2
  obtain ⟨z0, hz0⟩ : ∃ z0, c.rs.length = z0 := ⟨_, rfl⟩
  rw [hz0] at H41 ⊢
  clear hz0
  obtain ⟨z1, hz1⟩ : ∃ z1, c.ro.length = z1 := ⟨_, rfl⟩
  rw [hz1] at H41 ⊢
  clear hz1
  have hF := Aside0.mk (Fr.Frame.start w)
  have HC : True := trivial
  go_enter Try.func11, Try.ntmps11
  go_wp2_with (first | ((with_reducible refine gate_store rfl ?_); apply Fr.fr_store hF.out rfl rfl rfl; (case hp => rfl); (case hx => first | (go_simp; rfl) | rfl); (case hu => (simp only [Value.cells]; rfl)); (case hs => (repeat (first | exact Fr.Spot.here _ _ | apply Fr.Spot.there))); (case ht => kernel_rfl); (case h1 => simp [Value.oneCell']); (case hfit => simp); intro W hF1; simp only [Fr.patch, List.take_zero, List.nil_append, List.drop, List.append_nil, List.take, List.cons_append, List.length_cons, List.length_nil, Nat.reduceAdd] at hF1; have HC1 := hF1.cells; simp only [Fr.Cells, List.length_cons, List.length_nil, Nat.reduceAdd, and_true] at HC1; clear hF HC; have HC := HC1; have hF := Aside0.mk hF1; clear hF1 HC1) | ((with_reducible refine gate_dst (N := 6) rfl ?_); apply Fr.fr_box hF.out rfl; (case hrun => first | (go_simp; done) | (go_simp; rfl)); intro gc W hF1; have HC1 := hF1.cells; simp only [Fr.Cells, List.length_cons, List.length_nil, Nat.reduceAdd, and_true] at HC1; clear hF HC; have HC := HC1; have hF := Aside0.mk hF1; clear hF1 HC1) | ((with_reducible refine gate_dst (N := 7) rfl ?_); apply Fr.fr_box hF.out rfl; (case hrun => first | (go_simp; done) | (go_simp; rfl)); intro gd W hF1; have HC1 := hF1.cells; simp only [Fr.Cells, List.length_cons, List.length_nil, Nat.reduceAdd, and_true] at HC1; clear hF HC; have HC := HC1; have hF := Aside0.mk hF1; clear hF1 HC1) | ((first | (with_reducible refine Fr.gate_alloc rfl ?_) | (with_reducible refine Fr.gate_box rfl ?_)); apply Fr.fr_box hF.out rfl; (case hrun => first | (go_simp; done) | (go_simp; rfl)); intro g W hF1; have HC1 := hF1.cells; simp only [Fr.Cells, List.length_cons, List.length_nil, Nat.reduceAdd, and_true] at HC1; clear hF HC; have HC := HC1; have hF := Aside0.mk hF1; clear hF1 HC1))
  have HF0 := Aside0.mk hF.out.drew
  have HD0 := HF0.out.cells
  simp only [Fr.Cells, List.length_cons, List.length_nil, Nat.reduceAdd, and_true] at HD0
  clear hF HC
  have HDRW := Aside0.mk (show W.drew.heap.size = W.heap.size from rfl)
  have hne : gd ≠ gc := fun e => by have := HF0.out.nodup; simp only [List.map_cons, List.nodup_cons] at this; exact this.1 (by rw [e]; exact List.mem_cons_self)
  have hne' : gc ≠ gd := fun e => hne e.symm
  go_region_with (first | (go_at_call 41; refine (H41.out _).mono ?_; rintro e Wa ⟨rfl, hb⟩; have HFa := Aside0.mk (HF0.out.call hb); clear hb HD0; have HDa := HFa.out.cells; simp only [Fr.Cells, List.length_cons, List.length_nil, Nat.reduceAdd, and_true] at HDa) | (go_at_call 50; refine (H50.out _).mono ?_; rintro e Wb ⟨rfl, hb⟩; have HFb := Aside0.mk (HFa.out.call hb); clear hb HDa; have HDb := HFb.out.cells; simp only [Fr.Cells, List.length_cons, List.length_nil, Nat.reduceAdd, and_true] at HDb))
  all_goals
    have hF1 : Fr.Frame w ((((((((((Wb.setCell ⟨gc, 0, none⟩ (.slice A0 q.rs.length c0)).setCell ⟨gc, 1, none⟩ (.slice A1 q.ro.length c1)).setCell ⟨gc, 2, none⟩ (.int .i64 q.rep)).setCell ⟨gc, 3, none⟩ (.int .i64 q.beat)).setCell ⟨gd, 0, none⟩ (.slice A2 n2 c2)).setCell ⟨gd, 1, none⟩ (.int .i64 ro)).setCell ⟨gd, 2, none⟩ (.int .i64 pl)).setCell ⟨gd, 3, none⟩ (.int .i64 tr)).setCell ⟨gd, 4, none⟩ (.int .i64 du)).setCell ⟨gd, 5, none⟩ (.int .i64 st)) [(gd, [.slice A2 n2 c2, .int .i64 ro, .int .i64 pl, .int .i64 tr, .int .i64 du, .int .i64 st], 69), (gc, [.slice A0 q.rs.length c0, .slice A1 q.ro.length c1, .int .i64 q.rep, .int .i64 q.beat], 53)] [] := (HFb.out.put (Fr.Spot.there _ (Fr.Spot.here _ _)) 0 [.slice A0 q.rs.length c0, .slice A1 q.ro.length c1, .int .i64 q.rep, .int .i64 q.beat] (by simp)).put (Fr.Spot.here _ _) 0 [.slice A2 n2 c2, .int .i64 ro, .int .i64 pl, .int .i64 tr, .int .i64 du, .int .i64 st] (by simp)
    clear HFb HFa HF0 HDb
    obtain ⟨W9, hW9⟩ : ∃ W9, ((((((((((Wb.setCell ⟨gc, 0, none⟩ (.slice A0 q.rs.length c0)).setCell ⟨gc, 1, none⟩ (.slice A1 q.ro.length c1)).setCell ⟨gc, 2, none⟩ (.int .i64 q.rep)).setCell ⟨gc, 3, none⟩ (.int .i64 q.beat)).setCell ⟨gd, 0, none⟩ (.slice A2 n2 c2)).setCell ⟨gd, 1, none⟩ (.int .i64 ro)).setCell ⟨gd, 2, none⟩ (.int .i64 pl)).setCell ⟨gd, 3, none⟩ (.int .i64 tr)).setCell ⟨gd, 4, none⟩ (.int .i64 du)).setCell ⟨gd, 5, none⟩ (.int .i64 st)) = W9 := ⟨_, rfl⟩
    rw [hW9] at hF1 ⊢
    clear hW9
    have hF : True := trivial
    have HC : True := trivial
    have HC1 := hF1.cells; simp only [Fr.Cells, List.length_cons, List.length_nil, Nat.reduceAdd, and_true] at HC1; clear hF HC; have HC := HC1; have hF := Aside0.mk hF1; clear hF1 HC1
    go_wp2_with (first | ((with_reducible refine gate_store rfl ?_); apply Fr.fr_store hF.out rfl rfl rfl; (case hp => rfl); (case hx => first | (go_simp; rfl) | rfl); (case hu => (simp only [Value.cells]; rfl)); (case hs => (repeat (first | exact Fr.Spot.here _ _ | apply Fr.Spot.there))); (case ht => kernel_rfl); (case h1 => simp [Value.oneCell']); (case hfit => simp); intro W hF1; simp only [Fr.patch, List.take_zero, List.nil_append, List.drop, List.append_nil, List.take, List.cons_append, List.length_cons, List.length_nil, Nat.reduceAdd] at hF1; have HC1 := hF1.cells; simp only [Fr.Cells, List.length_cons, List.length_nil, Nat.reduceAdd, and_true] at HC1; clear hF HC; have HC := HC1; have hF := Aside0.mk hF1; clear hF1 HC1) | ((first | (with_reducible refine Fr.gate_alloc rfl ?_) | (with_reducible refine Fr.gate_box rfl ?_)); apply Fr.fr_box hF.out rfl; (case hrun => first | (go_simp; done) | (go_simp; rfl)); intro g W hF1; have HC1 := hF1.cells; simp only [Fr.Cells, List.length_cons, List.length_nil, Nat.reduceAdd, and_true] at HC1; clear hF HC; have HC := HC1; have hF := Aside0.mk hF1; clear hF1 HC1))
    (with_reducible refine (HS1.out _ hF.out.below).mono ?_); rintro e W ⟨rfl, hb⟩; have hF1 := hF.out.call hb; clear hb; have HC1 := hF1.cells; simp only [Fr.Cells, List.length_cons, List.length_nil, Nat.reduceAdd, and_true] at HC1; clear hF HC; have HC := HC1; have hF := Aside0.mk hF1; clear hF1 HC1
    go_wp2_with (first | ((with_reducible refine gate_store rfl ?_); apply Fr.fr_store hF.out rfl rfl rfl; (case hp => rfl); (case hx => first | (go_simp; rfl) | rfl); (case hu => (simp only [Value.cells]; rfl)); (case hs => (repeat (first | exact Fr.Spot.here _ _ | apply Fr.Spot.there))); (case ht => kernel_rfl); (case h1 => simp [Value.oneCell']); (case hfit => simp); intro W hF1; simp only [Fr.patch, List.take_zero, List.nil_append, List.drop, List.append_nil, List.take, List.cons_append, List.length_cons, List.length_nil, Nat.reduceAdd] at hF1; have HC1 := hF1.cells; simp only [Fr.Cells, List.length_cons, List.length_nil, Nat.reduceAdd, and_true] at HC1; clear hF HC; have HC := HC1; have hF := Aside0.mk hF1; clear hF1 HC1) | ((first | (with_reducible refine Fr.gate_alloc rfl ?_) | (with_reducible refine Fr.gate_box rfl ?_)); apply Fr.fr_box hF.out rfl; (case hrun => first | (go_simp; done) | (go_simp; rfl)); intro g W hF1; have HC1 := hF1.cells; simp only [Fr.Cells, List.length_cons, List.length_nil, Nat.reduceAdd, and_true] at HC1; clear hF HC; have HC := HC1; have hF := Aside0.mk hF1; clear hF1 HC1))
    (with_reducible refine (HS2.out _ hF.out.below).mono ?_); rintro e W ⟨rfl, hb⟩; have hF1 := hF.out.call hb; clear hb; have HC1 := hF1.cells; simp only [Fr.Cells, List.length_cons, List.length_nil, Nat.reduceAdd, and_true] at HC1; clear hF HC; have HC := HC1; have hF := Aside0.mk hF1; clear hF1 HC1
    go_wp2_with (first | ((with_reducible refine gate_store rfl ?_); apply Fr.fr_store hF.out rfl rfl rfl; (case hp => rfl); (case hx => first | (go_simp; rfl) | rfl); (case hu => (simp only [Value.cells]; rfl)); (case hs => (repeat (first | exact Fr.Spot.here _ _ | apply Fr.Spot.there))); (case ht => kernel_rfl); (case h1 => simp [Value.oneCell']); (case hfit => simp); intro W hF1; simp only [Fr.patch, List.take_zero, List.nil_append, List.drop, List.append_nil, List.take, List.cons_append, List.length_cons, List.length_nil, Nat.reduceAdd] at hF1; have HC1 := hF1.cells; simp only [Fr.Cells, List.length_cons, List.length_nil, Nat.reduceAdd, and_true] at HC1; clear hF HC; have HC := HC1; have hF := Aside0.mk hF1; clear hF1 HC1) | ((first | (with_reducible refine Fr.gate_alloc rfl ?_) | (with_reducible refine Fr.gate_box rfl ?_)); apply Fr.fr_box hF.out rfl; (case hrun => first | (go_simp; done) | (go_simp; rfl)); intro g W hF1; have HC1 := hF1.cells; simp only [Fr.Cells, List.length_cons, List.length_nil, Nat.reduceAdd, and_true] at HC1; clear hF HC; have HC := HC1; have hF := Aside0.mk hF1; clear hF1 HC1))
    (with_reducible refine (alive44_calls _).mono ?_); rintro e W ⟨rfl, hb⟩; have hF1 := hF.out.call hb; clear hb; have HC1 := hF1.cells; simp only [Fr.Cells, List.length_cons, List.length_nil, Nat.reduceAdd, and_true] at HC1; clear hF HC; have HC := HC1; have hF := Aside0.mk hF1; clear hF1 HC1
    go_wp2_with (first | ((with_reducible refine gate_store rfl ?_); apply Fr.fr_store hF.out rfl rfl rfl; (case hp => rfl); (case hx => first | (go_simp; rfl) | rfl); (case hu => (simp only [Value.cells]; rfl)); (case hs => (repeat (first | exact Fr.Spot.here _ _ | apply Fr.Spot.there))); (case ht => kernel_rfl); (case h1 => simp [Value.oneCell']); (case hfit => simp); intro W hF1; simp only [Fr.patch, List.take_zero, List.nil_append, List.drop, List.append_nil, List.take, List.cons_append, List.length_cons, List.length_nil, Nat.reduceAdd] at hF1; have HC1 := hF1.cells; simp only [Fr.Cells, List.length_cons, List.length_nil, Nat.reduceAdd, and_true] at HC1; clear hF HC; have HC := HC1; have hF := Aside0.mk hF1; clear hF1 HC1) | ((first | (with_reducible refine Fr.gate_alloc rfl ?_) | (with_reducible refine Fr.gate_box rfl ?_)); apply Fr.fr_box hF.out rfl; (case hrun => first | (go_simp; done) | (go_simp; rfl)); intro g W hF1; have HC1 := hF1.cells; simp only [Fr.Cells, List.length_cons, List.length_nil, Nat.reduceAdd, and_true] at HC1; clear hF HC; have HC := HC1; have hF := Aside0.mk hF1; clear hF1 HC1))
    (with_reducible refine (HSM.out _ hF.out.below).mono ?_); rintro e W ⟨rfl, hb⟩; have hF1 := hF.out.call hb; clear hb; have HC1 := hF1.cells; simp only [Fr.Cells, List.length_cons, List.length_nil, Nat.reduceAdd, and_true] at HC1; clear hF HC; have HC := HC1; have hF := Aside0.mk hF1; clear hF1 HC1
    go_wp2_with (first | ((with_reducible refine gate_store rfl ?_); apply Fr.fr_store hF.out rfl rfl rfl; (case hp => rfl); (case hx => first | (go_simp; rfl) | rfl); (case hu => (simp only [Value.cells]; rfl)); (case hs => (repeat (first | exact Fr.Spot.here _ _ | apply Fr.Spot.there))); (case ht => kernel_rfl); (case h1 => simp [Value.oneCell']); (case hfit => simp); intro W hF1; simp only [Fr.patch, List.take_zero, List.nil_append, List.drop, List.append_nil, List.take, List.cons_append, List.length_cons, List.length_nil, Nat.reduceAdd] at hF1; have HC1 := hF1.cells; simp only [Fr.Cells, List.length_cons, List.length_nil, Nat.reduceAdd, and_true] at HC1; clear hF HC; have HC := HC1; have hF := Aside0.mk hF1; clear hF1 HC1) | ((first | (with_reducible refine Fr.gate_alloc rfl ?_) | (with_reducible refine Fr.gate_box rfl ?_)); apply Fr.fr_box hF.out rfl; (case hrun => first | (go_simp; done) | (go_simp; rfl)); intro g W hF1; have HC1 := hF1.cells; simp only [Fr.Cells, List.length_cons, List.length_nil, Nat.reduceAdd, and_true] at HC1; clear hF HC; have HC := HC1; have hF := Aside0.mk hF1; clear hF1 HC1))
    (with_reducible refine (HRT.out _ hF.out.below).mono ?_); rintro e W ⟨rfl, hb⟩; have hF1 := hF.out.call hb; clear hb; have HC1 := hF1.cells; simp only [Fr.Cells, List.length_cons, List.length_nil, Nat.reduceAdd, and_true] at HC1; clear hF HC; have HC := HC1; have hF := Aside0.mk hF1; clear hF1 HC1
    go_wp2_with (first | ((with_reducible refine gate_store rfl ?_); apply Fr.fr_store hF.out rfl rfl rfl; (case hp => rfl); (case hx => first | (go_simp; rfl) | rfl); (case hu => (simp only [Value.cells]; rfl)); (case hs => (repeat (first | exact Fr.Spot.here _ _ | apply Fr.Spot.there))); (case ht => kernel_rfl); (case h1 => simp [Value.oneCell']); (case hfit => simp); intro W hF1; simp only [Fr.patch, List.take_zero, List.nil_append, List.drop, List.append_nil, List.take, List.cons_append, List.length_cons, List.length_nil, Nat.reduceAdd] at hF1; have HC1 := hF1.cells; simp only [Fr.Cells, List.length_cons, List.length_nil, Nat.reduceAdd, and_true] at HC1; clear hF HC; have HC := HC1; have hF := Aside0.mk hF1; clear hF1 HC1) | ((first | (with_reducible refine Fr.gate_alloc rfl ?_) | (with_reducible refine Fr.gate_box rfl ?_)); apply Fr.fr_box hF.out rfl; (case hrun => first | (go_simp; done) | (go_simp; rfl)); intro g W hF1; have HC1 := hF1.cells; simp only [Fr.Cells, List.length_cons, List.length_nil, Nat.reduceAdd, and_true] at HC1; clear hF HC; have HC := HC1; have hF := Aside0.mk hF1; clear hF1 HC1))
    go_ret
    exact ⟨rfl, hF.out.below⟩
theorem chain_first {c : Cf} {i p : Int} (h : chainE c i p = 0) : chainE c i 0 = 0 := by
  obtain ⟨h1, h2, h3, h4, h5⟩ := chain_facts h
  unfold chainE hasB
  rw [h1, decide_eq_true h2, decide_eq_true h3, decide_eq_true (show (0 : Int) ≤ 0 by omega), decide_eq_true (show (0 : Int) < ((rd_T58 c.ro i).f0.length : Int) by omega)]
  rfl
theorem chain_after {c : Cf} {i p : Int} (h : chainE c i p = 0) : chainE c i (afterV c i p) = 0 := by
  obtain ⟨h1, h2, h3, h4, h5⟩ := chain_facts h
  have ha : afterV c i p = (p + 1) % ((rd_T58 c.ro i).f0.length : Int) := by unfold afterV; rw [if_pos h]
  have hb := Int.emod_nonneg (p + 1) (show ((rd_T58 c.ro i).f0.length : Int) ≠ 0 by omega)
  have hc := Int.emod_lt_of_pos (p + 1) (show (0 : Int) < ((rd_T58 c.ro i).f0.length : Int) by omega)
  rw [ha]
  unfold chainE hasB
  rw [h1, decide_eq_true h2, decide_eq_true h3, decide_eq_true hb, decide_eq_true hc]
  rfl
theorem tries_pos {c : Cf} {i p : Int} (h : chainE c i p = 0) : recB (rd_T76 c.rs (recvV c i p)) = true := by
  obtain ⟨k, hk, hr⟩ := recv_in h
  rw [hr]
  exact rec_of (chain_facts h).1 hk
theorem duty_mk {c : Cf} {d : Dy} (h0 : chainE c d.ro d.pl = 0) (h1 : rightB d.ls = true) (h2 : tmB d.due = true) (h3 : 0 ≤ d.tr) (h4 : d.tr < (rd_T76 c.rs (recvV c d.ro d.pl)).f2) (h5 : 1 ≤ d.st) (h6 : d.st ≤ 3) : dutyB c d = true := by
  unfold dutyB
  rw [decide_eq_true h0, h1, h2, decide_eq_true h3, decide_eq_true h4, decide_eq_true h5, decide_eq_true h6]
  rfl
theorem addT_in (a b : Int) (h : a + b < 1099511627776) : addT a b = a + b := by unfold addT; rw [if_pos h]
set_option maxHeartbeats 4000000 in
theorem DutyLate (c : Cf) (A0 : Option Addr) (c0 : Nat) (A1 : Option Addr) (c1 : Nat) (d : Dy) (A2 : Option Addr) (c2 : Nat) (now more : Int) (ok : Bool) (draw : Int) (w : World) (hr0 : Kd.C k76 w A0 c.rs.length c.rs) (hl0 : c.rs.length ≤ c0) (hr1 : Kd.C k58 w A1 c.ro.length c.ro) (hl1 : c.ro.length ≤ c1) (hr2 : Kd.C k92 w A2 d.ls.length d.ls) (hl2 : d.ls.length ≤ c2) (hwf : ∀ x ∈ c.ro, WfR x) :
    Calls Try.prog 11 #[.agg #[.slice A0 c.rs.length c0, .slice A1 c.ro.length c1, .int .i64 c.rep, .int .i64 c.beat], .agg #[.slice A2 d.ls.length c2, .int .i64 d.ro, .int .i64 d.pl, .int .i64 d.tr, .int .i64 d.due, .int .i64 d.st], .int .i64 now, .int .i64 more, .bool ok, .int .i64 draw] w fun e w' => e = .returned (.bool true) ∧ Below w.heap.size w w' := by
  obtain ⟨q, hq⟩ : ∃ q, cutC c = q := ⟨_, rfl⟩
  obtain ⟨L, hL⟩ : ∃ L, d.ls.take 5 = L := ⟨_, rfl⟩
  obtain ⟨nw, hnw⟩ : ∃ nw, nowT now = nw := ⟨_, rfl⟩
  obtain ⟨mr, hmr⟩ : ∃ mr, moreT more = mr := ⟨_, rfl⟩
  have hq0 : Kd.C k76 w A0 q.rs.length q.rs := take_C 6 hr0 (by rw [← hq]; rfl)
  have hq1 : Kd.C k58 w A1 q.ro.length q.ro := take_C 6 hr1 (by rw [← hq]; rfl)
  have hq0l : q.rs.length ≤ c0 := by rw [← hq]; show (c.rs.take 6).length ≤ c0; rw [List.length_take]; omega
  have hqwf : ∀ x ∈ q.ro, WfR x := fun x hx => hwf x (by rw [← hq] at hx; exact List.mem_of_mem_take hx)
  have hqL : Kd.C k92 w A2 L.length L := take_C 5 hr2 hL
  have hnwi := now_in now
  have hmri := more_in more
  rw [hnw] at hnwi
  rw [hmr] at hmri
  have h1 : tmB nw = true := (tm_iff _).2 (by omega)
  have h2 : tmB (nw + mr) = true := (tm_iff _).2 (by omega)
  by_cases hd : dutyB q ⟨L, d.ro, d.pl, d.tr, d.due, d.st⟩ = true
  · have hf := duty_facts hd
    dsimp only at hf
    obtain ⟨hch, hrl, hdt, htr0, htr1, hst1, hst3⟩ := hf
    have hrep := rep_ok (chain_facts hch).1
    have hrec := rec_facts (tries_pos hch)
    by_cases hdue : d.due ≤ nw
    · cases ok with
      | false =>
        have hwt := wait_in hrec.1 htr0 draw
        have e1 := addT_in nw (waitW (rd_T76 q.rs (recvV q d.ro d.pl)).f1 d.tr draw) (by omega)
        have e2 := addT_in (nw + mr) (waitW (rd_T76 q.rs (recvV q d.ro d.pl)).f1 d.tr draw) (by omega)
        by_cases hne : d.tr + 1 = (rd_T76 q.rs (recvV q d.ro d.pl)).f2
        · exact late_ok c A0 c0 A1 c1 d A2 c2 now more false draw w hr0 hl0 hr1 hl1 hr2 hl2 q hq L hL nw mr hnw hmr _ _ _ _ _
            (fun W hb => sent_next q A0 c0 A1 c1 ⟨L, d.ro, d.pl, d.tr, d.due, d.st⟩ A2 c2 nw false draw W (Kd.C_below hq0 hb) hq0l (Kd.C_below hq1 hb) hqwf (Kd.C_below hqL hb) rfl hd h1 hdue _ rfl hne)
            (fun W hb => sent_next q A0 c0 A1 c1 ⟨L, d.ro, d.pl, d.tr, d.due, d.st⟩ A2 c2 (nw + mr) false draw W (Kd.C_below hq0 hb) hq0l (Kd.C_below hq1 hb) hqwf (Kd.C_below hqL hb) rfl hd h2 (by show d.due ≤ nw + mr; omega) _ rfl hne)
            hwf (by (try dsimp only); rw [e1, e2]; omega) (by (try dsimp only); rw [e2]; omega) ((tm_iff _).2 (by (try dsimp only); rw [e2]; omega))
            (duty_mk (chain_after hch) hrl ((tm_iff _).2 (by (try dsimp only); rw [e2]; omega)) (Int.le_refl 0) (by have := (rec_facts (tries_pos (chain_after hch))).2.1; (try dsimp only); omega) hst1 hst3)
        · exact late_ok c A0 c0 A1 c1 d A2 c2 now more false draw w hr0 hl0 hr1 hl1 hr2 hl2 q hq L hL nw mr hnw hmr _ _ _ _ _
            (fun W hb => sent_same q A0 c0 A1 c1 ⟨L, d.ro, d.pl, d.tr, d.due, d.st⟩ A2 c2 nw false draw W (Kd.C_below hq0 hb) hq0l (Kd.C_below hq1 hb) hqwf (Kd.C_below hqL hb) rfl hd h1 hdue _ rfl hne)
            (fun W hb => sent_same q A0 c0 A1 c1 ⟨L, d.ro, d.pl, d.tr, d.due, d.st⟩ A2 c2 (nw + mr) false draw W (Kd.C_below hq0 hb) hq0l (Kd.C_below hq1 hb) hqwf (Kd.C_below hqL hb) rfl hd h2 (by show d.due ≤ nw + mr; omega) _ rfl hne)
            hwf (by (try dsimp only); rw [e1, e2]; omega) (by (try dsimp only); rw [e2]; omega) ((tm_iff _).2 (by (try dsimp only); rw [e2]; omega))
            (duty_mk hch hrl ((tm_iff _).2 (by (try dsimp only); rw [e2]; omega)) (by (try dsimp only); omega) (by (try dsimp only); omega) hst1 hst3)
      | true =>
        have e1 := addT_in nw q.rep (by omega)
        have e2 := addT_in (nw + mr) q.rep (by omega)
        have hd9 : dutyB q ⟨L, d.ro, 0, 0, addT (nw + mr) q.rep, 2⟩ = true :=
          duty_mk (chain_first hch) hrl ((tm_iff _).2 (by (try dsimp only); rw [e2]; omega)) (Int.le_refl 0) (by have := (rec_facts (tries_pos (chain_first hch))).2.1; (try dsimp only); omega) (show (1 : Int) ≤ 2 by decide) (show (2 : Int) ≤ 3 by decide)
        rcases (show d.st = 1 ∨ d.st = 2 ∨ d.st = 3 by omega) with hst | hst | hst
        · exact late_ok c A0 c0 A1 c1 d A2 c2 now more true draw w hr0 hl0 hr1 hl1 hr2 hl2 q hq L hL nw mr hnw hmr _ _ _ _ _
            (fun W hb => sent_ok1 q A0 c0 A1 c1 ⟨L, d.ro, d.pl, d.tr, d.due, d.st⟩ A2 c2 nw true draw W (Kd.C_below hq0 hb) hq0l (Kd.C_below hq1 hb) hqwf (Kd.C_below hqL hb) rfl hd h1 hdue hst)
            (fun W hb => sent_ok1 q A0 c0 A1 c1 ⟨L, d.ro, d.pl, d.tr, d.due, d.st⟩ A2 c2 (nw + mr) true draw W (Kd.C_below hq0 hb) hq0l (Kd.C_below hq1 hb) hqwf (Kd.C_below hqL hb) rfl hd h2 (by show d.due ≤ nw + mr; omega) hst)
            hwf (by (try dsimp only); rw [e1, e2]; omega) (by (try dsimp only); rw [e2]; omega) ((tm_iff _).2 (by (try dsimp only); rw [e2]; omega)) hd9
        · exact late_ok c A0 c0 A1 c1 d A2 c2 now more true draw w hr0 hl0 hr1 hl1 hr2 hl2 q hq L hL nw mr hnw hmr _ _ _ _ _
            (fun W hb => sent_ok2 q A0 c0 A1 c1 ⟨L, d.ro, d.pl, d.tr, d.due, d.st⟩ A2 c2 nw true draw W (Kd.C_below hq0 hb) hq0l (Kd.C_below hq1 hb) hqwf (Kd.C_below hqL hb) rfl hd h1 hdue hst)
            (fun W hb => sent_ok2 q A0 c0 A1 c1 ⟨L, d.ro, d.pl, d.tr, d.due, d.st⟩ A2 c2 (nw + mr) true draw W (Kd.C_below hq0 hb) hq0l (Kd.C_below hq1 hb) hqwf (Kd.C_below hqL hb) rfl hd h2 (by show d.due ≤ nw + mr; omega) hst)
            hwf (by (try dsimp only); rw [e1, e2]; omega) (by (try dsimp only); rw [e2]; omega) ((tm_iff _).2 (by (try dsimp only); rw [e2]; omega)) hd9
        · exact late_gone c A0 c0 A1 c1 d A2 c2 now more true draw w hr0 hl0 hr1 hl1 hr2 hl2 q hq L hL nw mr hnw hmr
            (fun W hb => sent_ok3 q A0 c0 A1 c1 ⟨L, d.ro, d.pl, d.tr, d.due, d.st⟩ A2 c2 nw true draw W (Kd.C_below hq0 hb) hq0l (Kd.C_below hq1 hb) hqwf (Kd.C_below hqL hb) rfl hd h1 hdue hst)
            (fun W hb => sent_ok3 q A0 c0 A1 c1 ⟨L, d.ro, d.pl, d.tr, d.due, d.st⟩ A2 c2 (nw + mr) true draw W (Kd.C_below hq0 hb) hq0l (Kd.C_below hq1 hb) hqwf (Kd.C_below hqL hb) rfl hd h2 (by show d.due ≤ nw + mr; omega) hst) hst
    · have hS1 := fun (W : World) (hb : Below w.heap.size w W) => sent_6 q A0 c0 A1 c1 ⟨L, d.ro, d.pl, d.tr, d.due, d.st⟩ A2 c2 nw ok draw W (Kd.C_below hq0 hb) hq0l (Kd.C_below hq1 hb) hqwf (Kd.C_below hqL hb) hd h1 (by show nw < d.due; omega)
      by_cases hdue2 : d.due ≤ nw + mr
      · refine late_60 c A0 c0 A1 c1 d A2 c2 now more ok draw w hr0 hl0 hr1 hl1 hr2 hl2 q hq L hL nw mr hnw hmr hS1 (fun W hb => ?_)
        cases ok with
        | false =>
          by_cases hne : d.tr + 1 = (rd_T76 q.rs (recvV q d.ro d.pl)).f2
          · exact (sent_next q A0 c0 A1 c1 ⟨L, d.ro, d.pl, d.tr, d.due, d.st⟩ A2 c2 (nw + mr) false draw W (Kd.C_below hq0 hb) hq0l (Kd.C_below hq1 hb) hqwf (Kd.C_below hqL hb) rfl hd h2 hdue2 _ rfl hne).mono (fun e W' h => ⟨_, _, _, _, _, _, _, _, _, h.1, h.2⟩)
          · exact (sent_same q A0 c0 A1 c1 ⟨L, d.ro, d.pl, d.tr, d.due, d.st⟩ A2 c2 (nw + mr) false draw W (Kd.C_below hq0 hb) hq0l (Kd.C_below hq1 hb) hqwf (Kd.C_below hqL hb) rfl hd h2 hdue2 _ rfl hne).mono (fun e W' h => ⟨_, _, _, _, _, _, _, _, _, h.1, h.2⟩)
        | true =>
          rcases (show d.st = 1 ∨ d.st = 2 ∨ d.st = 3 by omega) with hst | hst | hst
          · exact (sent_ok1 q A0 c0 A1 c1 ⟨L, d.ro, d.pl, d.tr, d.due, d.st⟩ A2 c2 (nw + mr) true draw W (Kd.C_below hq0 hb) hq0l (Kd.C_below hq1 hb) hqwf (Kd.C_below hqL hb) rfl hd h2 hdue2 hst).mono (fun e W' h => ⟨_, _, _, _, _, _, _, _, _, h.1, h.2⟩)
          · exact (sent_ok2 q A0 c0 A1 c1 ⟨L, d.ro, d.pl, d.tr, d.due, d.st⟩ A2 c2 (nw + mr) true draw W (Kd.C_below hq0 hb) hq0l (Kd.C_below hq1 hb) hqwf (Kd.C_below hqL hb) rfl hd h2 hdue2 hst).mono (fun e W' h => ⟨_, _, _, _, _, _, _, _, _, h.1, h.2⟩)
          · exact (sent_ok3 q A0 c0 A1 c1 ⟨L, d.ro, d.pl, d.tr, d.due, d.st⟩ A2 c2 (nw + mr) true draw W (Kd.C_below hq0 hb) hq0l (Kd.C_below hq1 hb) hqwf (Kd.C_below hqL hb) rfl hd h2 hdue2 hst).mono (fun e W' h => ⟨_, _, _, _, _, _, _, _, _, h.1, h.2⟩)
      · exact late_66 c A0 c0 A1 c1 d A2 c2 now more ok draw w hr0 hl0 hr1 hl1 hr2 hl2 q hq L hL nw mr hnw hmr hS1 (fun W hb => (sent_6 q A0 c0 A1 c1 ⟨L, d.ro, d.pl, d.tr, d.due, d.st⟩ A2 c2 (nw + mr) ok draw W (Kd.C_below hq0 hb) hq0l (Kd.C_below hq1 hb) hqwf (Kd.C_below hqL hb) hd h2 (by show nw + mr < d.due; omega)).mono (fun e W' h => ⟨_, _, _, _, _, _, _, _, _, h.1, h.2⟩))
  · have hdf : dutyB q ⟨L, d.ro, d.pl, d.tr, d.due, d.st⟩ = false := Bool.eq_false_iff.2 hd
    exact late_11 c A0 c0 A1 c1 d A2 c2 now more ok draw w hr0 hl0 hr1 hl1 hr2 hl2 q hq L hL nw mr hnw hmr
      (fun W hb => sent_1 q A0 c0 A1 c1 ⟨L, d.ro, d.pl, d.tr, d.due, d.st⟩ A2 c2 nw ok draw W (Kd.C_below hq0 hb) hq0l (Kd.C_below hq1 hb) hqwf (Kd.C_below hqL hb) (by rw [hdf]; rfl))
      (fun W hb => (sent_1 q A0 c0 A1 c1 ⟨L, d.ro, d.pl, d.tr, d.due, d.st⟩ A2 c2 (nw + mr) ok draw W (Kd.C_below hq0 hb) hq0l (Kd.C_below hq1 hb) hqwf (Kd.C_below hqL hb) (by rw [hdf]; rfl)).mono (fun e W' h => ⟨_, _, _, _, _, _, _, _, _, h.1, h.2⟩))
theorem DutyLateR {P1 P2 P3 P4 : Prop} (A0 : Option Addr) (c0 : Nat) (l0 : List S76) (A1 : Option Addr) (c1 : Nat) (l1 : List S58) (rep beat : Int) (A2 : Option Addr) (c2 : Nat) (l : List S92) (ro pl tr due st : Int) (now more : Int) (ok : Bool) (draw : Int) (w : World) (hr0 : Kd.C k76 w A0 l0.length l0) (hl0 : l0.length ≤ c0) (hr1 : Kd.C k58 w A1 l1.length l1) (hl1 : l1.length ≤ c1) (hr2 : Kd.C k92 w A2 l.length l) (hl2 : l.length ≤ c2)
    (w0 : WCf l0 l1 rep beat) (w1 : P1) (w2 : P2) (w3 : P3) (w5 : P4) :
    Calls Try.prog 11 #[.agg #[.slice A0 l0.length c0, .slice A1 l1.length c1, .int .i64 rep, .int .i64 beat], .agg #[.slice A2 l.length c2, .int .i64 ro, .int .i64 pl, .int .i64 tr, .int .i64 due, .int .i64 st], .int .i64 now, .int .i64 more, .bool ok, .int .i64 draw] w fun e w' => e = .returned (.bool true) ∧ Below w.heap.size w w' :=
  DutyLate ⟨l0, l1, rep, beat⟩ A0 c0 A1 c1 ⟨l, ro, pl, tr, due, st⟩ A2 c2 now more ok draw w hr0 hl0 hr1 hl1 hr2 hl2 w0.ok.2
end Go.Proofs.Ytkphinfijppkeaa.G
