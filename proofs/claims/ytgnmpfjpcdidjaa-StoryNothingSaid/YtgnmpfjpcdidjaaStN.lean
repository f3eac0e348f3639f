/- Whether a story may be: of a List and its return. Conditions: how the events lie in memory. -/
import Derived.Test.YtgnmpfjpcdidjaaStM
set_option linter.unusedVariables false
set_option linter.unusedSimpArgs false
namespace Go.Proofs.Ytgnmpfjpcdidjaa.P
open Go.RowKit Go.Proofs.YtgnmpfjpcdidjaaW.PrintWords Go.Proofs.YtgnmpfjpcdidjaaW.PrintLast Go.Proofs.YtgnmpfjpcdidjaaW.PrintMore

/-- What look tells of a List and its return. -/
def ListSaid (m : Int) (b : Bool) (e : Ending) (w' : World) : Prop :=
  (b = true → ∃ jb gv mb gd cd, e = .returned (.tuple #[.pointer (some ⟨jb, 0, none⟩), .slice (some ⟨gd, 0, none⟩) 1 cd]) ∧ JOk w' jb gv mb 2 ∧ w'.rangeAt gd 0 (deedL m)) ∧ (b = false → e = .returned (.tuple #[.pointer none, .slice none 0 0]))
theorem ListSaid.no {m : Int} {w' : World} : ListSaid m false (.returned (.tuple #[.pointer none, .slice none 0 0])) w' := ⟨fun h => (nomatch h), fun _ => rfl⟩
theorem ListSaid.yes {m : Int} {w' : World} {jb gv mb gd cd : Nat} (hj : JOk w' jb gv mb 2) (hd : w'.rangeAt gd 0 (deedL m)) : ListSaid m true (.returned (.tuple #[.pointer (some ⟨jb, 0, none⟩), .slice (some ⟨gd, 0, none⟩) 1 cd])) w' := ⟨fun _ => ⟨_, _, _, _, _, rfl, hj, hd⟩, fun h => nomatch h⟩
set_option maxRecDepth 100000 in
set_option maxHeartbeats 8000000 in
theorem look_list (g cap : Nat) (m : Int) (w : World) (hg : w.rangeAt g 0 (evA false 0)) (hh : w.rangeAt g 17 (evA true m)) (b : Bool) (hm : (m == 0) = b) : Calls Try.prog 12 #[.slice (some ⟨g, 0, none⟩) 2 cap] w fun e w' =>
    ListSaid m b e w' ∧ Below w.heap.size w w' := by
  have hmm := run_makePins
  have DD := Aside0.mk (deeds_done g cap 0 0 0 6 0 0 0 0 0 m ⟨#[]⟩ w hg hh)
  have SO := Aside0.mk (fun W h1 h2 => sorted_two 0 m g cap W h1 h2)
  have HG := Aside0.mk hg
  have HH := Aside0.mk hh
  clear hg hh
  go_enter Try.func12, Try.ntmps12
  go_wp2_with fail
  refine DD.out.mono ?_
  rintro en w1 ⟨gd, cd, rfl, hcd, hd, hbd, hb⟩
  have HB1 := Aside0.mk hb
  have HG1 := Aside0.mk (show w1.rangeAt g 0 (evA false 0) from fun j v hj => pw_cell_below hb (HG.out j v hj))
  have HH1 := Aside0.mk (show w1.rangeAt g 17 (evA true m) from fun j v hj => pw_cell_below hb (HH.out j v hj))
  have HD1 := Aside0.mk (show w1.rangeAt gd 0 (deedL m) from hd)
  have VE := Aside0.mk (versions_one m gd cd w1 hd)
  clear hb hd hcd hbd
  go_wp2_with fail
  refine VE.out.mono ?_
  rintro en w2 ⟨gv, rfl, hv, hb⟩
  have HB2 := Aside0.mk (below_step HB1.out hb)
  have HV2 := Aside0.mk hv.1
  have HD2 := Aside0.mk (ra_below HD1.out hb)
  have g2 : w2.cell? ⟨g, 2, none⟩ = some (.int .i64 0) := pw_cell_below hb (HG1.out 2 _ rfl)
  have SO2 := Aside0.mk (SO.out w2 (ra_below HG1.out hb) (ra_below HH1.out hb))
  clear hb hv
  go_wp2_with fail
  refine SO2.out.mono ?_
  rintro en w3 ⟨rfl, hb⟩
  have HB3 := Aside0.mk (below_step HB2.out hb)
  have HV3 := Aside0.mk (pw_cell_below hb HV2.out)
  have HD3 := Aside0.mk (ra_below HD2.out hb)
  clear hb g2
  have HE3 := Aside0.mk HD3.out
  unfold deedL at HE3
  go_wp2_with fail
  refine wp_loop_rounds 2 ?_
  rw [rounds_succ]
  obtain ⟨X, hX⟩ : ∃ X, ((w3.alloc (.map #[] 0)).alloc (.cells #[.slice (some ⟨gv, 0, none⟩) 1 1, .map (some w3.heap.size), .int .i64 2] 73)).alloc (.cells #[.pointer (some ⟨w3.heap.size + 1, 0, none⟩)] 48) = X := ⟨_, rfl⟩
  have HBX := Aside0.mk (show Below w.heap.size w X by rw [← hX]; exact below_alloc (below_alloc (below_alloc HB3.out _) _) _)
  have hbx : Below w3.heap.size w3 X := by rw [← hX]; exact below_alloc (below_alloc (below_alloc (Below.refl _ _) _) _) _
  have HJX := Aside0.mk (show JOk X (w3.heap.size + 1) gv w3.heap.size 2 by
    refine ⟨?_, pw_cell_below hbx HV3.out, ?_⟩
    · rw [← hX]; exact ra_alloc _ (ra_last (by go_simp))
    · rw [← hX]; exact blk_alloc _ (blk_alloc _ (blk_last rfl)))
  have HCX := Aside0.mk (show X.cell? ⟨w3.heap.size + 2, 0, none⟩ = some (.pointer (some ⟨w3.heap.size + 1, 0, none⟩)) by rw [← hX]; exact blk_cell' (blk_last (by go_simp)) 0)
  have HDX := Aside0.mk (ra_below HD3.out hbx)
  have HEX := Aside0.mk (ra_below HE3.out hbx)
  rw [hX]
  clear hX hbx
  have OP := Aside0.mk (fun W => open_calls m (.pointer (some ⟨w3.heap.size + 1, 0, none⟩)) W)
  have HL := Aside0.mk (ra_last (w := X) (cs := deedL m) (t := 53) rfl)
  have c0 : (X.alloc (.cells (deedL m).toArray 53)).cell? ⟨w3.heap.size + 2, 0, none⟩ = some (.pointer (some ⟨w3.heap.size + 1, 0, none⟩)) := pw_cell_below (below_alloc (Below.refl X.heap.size X) _) HCX.out
  unfold deedL at OP HL c0
  go_wp2_with (first
    | (refine wpList_load_mid rfl 53 (.tmp 54) rfl gd 0 rfl _ _ HEX.out Try.underlying53 rfl (by kernel_rfl) ?_)
    | (refine wpList_store_row rfl 53 (.tmp 10) (.tmp 55) rfl X.heap.size _ rfl rfl 53 _ (blk_last rfl) (by kernel_rfl) rfl (by simp [Value.oneCell']) ?_; rw [row_last rfl])
    | (refine wpList_load_mid rfl 53 (.tmp 10) rfl X.heap.size 0 rfl _ _ HL.out Try.underlying53 rfl (by kernel_rfl) ?_))
  refine (OP.out _).mono ?_
  rintro en w4 ⟨rfl, hb⟩
  have hb4 := below_step (below_alloc (Below.refl X.heap.size X) _) hb
  have HB4 := Aside0.mk (below_step HBX.out hb4)
  have HJ4 := Aside0.mk (HJX.out.below hb4)
  have HC4 := Aside0.mk (pw_cell_below hb4 HCX.out)
  have HD4 := Aside0.mk (ra_below HDX.out hb4)
  clear hb hb4 c0
  have CJ := Aside0.mk (containsJ_calls m (w3.heap.size + 2) (w3.heap.size + 1) gv w3.heap.size 2 gd cd w4 HD4.out HC4.out HJ4.out b hm)
  go_wp2_with fail
  rw [rounds_succ]
  go_wp2_with fail
  refine CJ.out.mono ?_
  rintro en w5 ⟨rfl, hb⟩
  have HB5 := Aside0.mk (below_step HB4.out hb)
  have HJ5 := Aside0.mk (HJ4.out.below hb)
  have c5 := pw_cell_below hb HC4.out
  have HD5 := Aside0.mk (ra_below HD4.out hb)
  clear hb
  cases b
  · go_wp2_with fail
    go_ret2
    exact ⟨ListSaid.no, HB5.out⟩
  · go_wp2_with fail
    go_ret2
    exact ⟨ListSaid.yes HJ5.out HD5.out, HB5.out⟩
end Go.Proofs.Ytgnmpfjpcdidjaa.P
