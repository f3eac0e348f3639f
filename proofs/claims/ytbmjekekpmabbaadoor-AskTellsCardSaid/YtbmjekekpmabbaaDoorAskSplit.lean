/- strings.Split at one blank cuts a text at its blanks. Conditions: the text is not too long. -/
import Derived.Test.YtbmjekekpmabbaaDoorAskCut
import Derived.Test.YtbmjekekpmabbaaDoorContains
set_option linter.unusedVariables false
set_option linter.unusedSimpArgs false
namespace Go.Proofs.YtbmjekekpmabbaaDoor.P
open Go.RowKit Go.Proofs.YtbmjekekpmabbaaDoorW.PrintWords Go.Proofs.YtbmjekekpmabbaaDoorW.PrintLast Go.Proofs.YtbmjekekpmabbaaDoorW.PrintMore

set_option maxHeartbeats 1000000 in
set_option maxRecDepth 100000 in
theorem count_one (s : ByteArray) (c : UInt8) (w : World) :
    Calls Tryd.prog 61 #[.string s, .string ⟨#[c]⟩] w fun e w' => e = .returned (.int .i64 (Lib.countByte s.data.toList c)) ∧ w' = w := by
  go_enter Tryd.func61, Tryd.ntmps61
  go_wp2
  rw [run_callFunc_extern Tryd.func70 (by kernel_rfl) (by kernel_rfl) (by kernel_rfl) (e := Extern.BytealgCount.count) (by kernel_rfl), Lib.run_countString]
  simp only [Result.andThen]
  rw [Oper.upon_value]
  go_wp2
  go_ret
  exact ⟨rfl, rfl⟩
theorem infoStr : ((Tryd.prog).info? 9).map (fun i => (i.zero, i.size, i.bytes)) = some (some (.string ⟨#[]⟩), 1, 16) := by kernel_rfl
theorem rep_set {done : List ByteArray} {N : Nat} (x : ByteArray) (h : done.length < N) : (done ++ List.replicate (N - done.length) (⟨#[]⟩ : ByteArray)).set done.length x = (done ++ [x]) ++ List.replicate (N - (done ++ [x]).length) ⟨#[]⟩ := by
  obtain ⟨k, hk⟩ : ∃ k, N - done.length = k + 1 := ⟨N - done.length - 1, by omega⟩
  rw [hk, List.replicate_succ, List.set_append_right _ _ (Nat.le_refl _), Nat.sub_self, List.set_cons_zero, List.length_append, show N - (done.length + [x].length) = k by simp; omega]
  simp
set_option maxRecDepth 100000 in
set_option maxHeartbeats 4000000 in
theorem genSplit_calls (s : ByteArray) (w : World) (hs : s.size ≤ 1000000) :
    Calls Tryd.prog 53 #[.string s, .string ⟨#[32]⟩, .int .i64 0, .int .i64 (-1)] w fun e w' => ∃ g : Nat, e = .returned (.slice (some ⟨g, 0, none⟩) (splitB s).length (splitB s).length) ∧ w'.ownsRow w.heap.size 9 1 (.slice (some ⟨g, 0, none⟩) (splitB s).length (splitB s).length) (splitB s).length (encs Value.string (splitB s)) ∧ Below w.heap.size w w' := by
  have CO := Aside0.mk (count_one s 32)
  have IX := Aside0.mk (fun r => strings_Index1 r 32)
  obtain ⟨n, hn⟩ : ∃ n, Lib.countByte s.data.toList 32 = n := ⟨_, rfl⟩
  obtain ⟨N, hN⟩ : ∃ N, (splitB s).length = N := ⟨_, rfl⟩
  have hnN : N = n + 1 := by rw [← hN, splitB_len, ← hn]; rfl
  have hns : n ≤ s.size := by rw [← hn]; exact count_size s
  rw [hn] at CO
  rw [hN]
  have HN := Aside0.mk hN
  have HnN := Aside0.mk hnN
  have HS := Aside0.mk hs
  have HNS := Aside0.mk hns
  have v1 : IntKind.i64.wrap ((n : Int) + 1) = (N : Int) := by rw [IntWalk.i64_in _ (by omega)]; omega
  have v2 : IntKind.i64.wrap ((s.size : Int) + 1) = (s.size : Int) + 1 := IntWalk.i64_in _ (by omega)
  have v3 : min (N : Int) ((s.size : Int) + 1) = (N : Int) := by omega
  have v4 : IntKind.i64.wrap ((N : Int) - 1) = (n : Int) := by rw [IntWalk.i64_in _ (by omega)]; omega
  have hmk := print_make_of 34 9 (.string ⟨#[]⟩) 16 Tryd.underlying34 infoStr rfl (by decide) N (by omega)
  clear hn hN hs hns hnN
  go_enter Tryd.func53, Tryd.ntmps53
  go_wp2_with (go_at_call 61; refine (CO.out _).mono ?_; rintro e w ⟨rfl, rfl⟩)
  clear v1 v2 v3 v4 hmk CO
  obtain ⟨g, hg⟩ : ∃ g, w.heap.size = g := ⟨_, rfl⟩
  obtain ⟨W1, hW1⟩ : ∃ W1, w.alloc (.cells (madeCells #[Value.string ⟨#[]⟩] N) 9) = W1 := ⟨_, rfl⟩
  have HO1 : Aside0 (W1.ownsRow w.heap.size 9 1 (.slice (some ⟨g, 0, none⟩) N N) N (encs Value.string ([] ++ List.replicate (N - ([] : List ByteArray).length) ⟨#[]⟩))) := ⟨by
    rw [← hW1, ← hg]
    exact own_made_of (enc := Value.string) (d := ⟨#[]⟩) w w.heap.size 9 N (Nat.le_refl _) (by have := HnN.out; have := HNS.out; have := HS.out; omega)⟩
  have HB1 : Aside0 (Below w.heap.size w W1) := ⟨by rw [← hW1]; exact below_alloc (Below.refl _ _) _⟩
  have HG := Aside0.mk hg
  rw [hW1, hg]
  clear hW1 hg
  go_loopw [0, 10] (fun s0 s10 wr => ∃ (done : List ByteArray) (r : ByteArray) (k : Nat), s0 = .string r ∧ s10 = .int .i64 k ∧ Aside0 (done.length = k ∧ k ≤ n) ∧ Aside0 (r.size ≤ s.size) ∧ Aside0 (splitB s = done ++ splitB r) ∧ Aside0 (wr.ownsRow w.heap.size 9 1 (.slice (some ⟨g, 0, none⟩) N N) N (encs Value.string (done ++ List.replicate (N - done.length) ⟨#[]⟩))) ∧ Aside0 (Below w.heap.size w wr)) (fun _ s10 _ => n - (intOf s10).toNat)
  case atStart => exact ⟨[], s, 0, rfl, rfl, ⟨rfl, Nat.zero_le _⟩, ⟨Nat.le_refl _⟩, ⟨rfl⟩, HO1, HB1⟩
  case round =>
    clear HO1 HB1
    obtain ⟨done, r, k, rfl, rfl, HK, HR, HE, HO, HB⟩ := hrel
    by_cases hlt : k < n
    · have c1 : decide ((k : Int) < (n : Int)) = true := decide_eq_true (by omega)
      have hlen : (splitB r).length ≠ 1 := by
        have := congrArg List.length HE.out
        rw [List.length_append, HN.out, HnN.out, HK.out.1] at this
        omega
      obtain ⟨m, hm⟩ := splitB_two hlen
      obtain ⟨hmr, hsp⟩ := splitB_some hm
      have I1 := Aside0.mk (IX.out r wr)
      rw [hm] at I1
      have v1 : wrap64 (m : Int) = (m : Int) := (i64_w _).symm.trans (IntWalk.i64_in _ (by have := HR.out; have := HS.out; omega))
      have v2 : IntKind.i64.wrap ((m : Int) + 1) = ((m + 1 : Nat) : Int) := by rw [IntWalk.i64_in _ (by have := HR.out; have := HS.out; omega)]; omega
      have v3 : ((m : Int) ≤ (r.size : Int)) = True := eq_true (by omega)
      have v4 : (m ≤ r.size) = True := eq_true (by omega)
      have v5 : (m + 1 ≤ r.size) = True := eq_true (by omega)
      have v6 : ((k : Int) < (N : Int)) = True := eq_true (by have := HnN.out; omega)
      have v7 : (k < N) = True := eq_true (by have := HnN.out; omega)
      have v8 : (0 ≤ (k : Int)) = True := eq_true (by omega)
      have v9 : IntKind.i64.wrap ((k : Int) + 1) = ((k + 1 : Nat) : Int) := by rw [IntWalk.i64_in _ (by have := HNS.out; have := HS.out; omega)]; omega
      have c2 : decide ((m : Int) < 0) = false := decide_eq_false (by omega)
      clear hm hlen
      obtain ⟨hcell, hfro⟩ := own_at_of (d := (⟨#[]⟩ : ByteArray)) HO.out (k : Int) (by omega) (by have := HnN.out; omega)
      rw [Int.toNat_natCast] at hcell hfro
      have hst := own_store_of HO.out (k : Int) (r.extract 0 m)
      rw [Int.toNat_natCast, ← HK.out.1, rep_set (r.extract 0 m) (by rw [HK.out.1]; have := HnN.out; omega), HK.out.1] at hst
      have HST := Aside0.mk hst
      have HSP := Aside0.mk hsp
      clear hst hsp
      go_wp2_with (go_at_call 51; refine I1.out.mono ?_; rintro e wr ⟨rfl, rfl⟩)
      refine ⟨⟨done ++ [r.extract 0 m], r.extract (m + 1) r.size, k + 1, rfl, by go_num, ⟨by rw [List.length_append, HK.out.1]; rfl, by omega⟩, ⟨by rw [ByteArray.size_extract]; have := HR.out; omega⟩, ⟨by rw [HE.out, HSP.out]; simp⟩, ⟨HST.out.1⟩, ⟨below_set HB.out (by rw [HG.out]; exact Nat.le_refl _)⟩⟩, ?_⟩
      simp [intOf]
      omega
    · obtain rfl : k = n := by have := HK.out.2; omega
      have c1 : decide ((k : Int) < (k : Int)) = false := decide_eq_false (by omega)
      have hsp : splitB r = [r] := splitB_one (by
        have := congrArg List.length HE.out
        rw [List.length_append, HN.out, HnN.out, HK.out.1] at this
        omega)
      have v6 : ((k : Int) < (N : Int)) = True := eq_true (by have := HnN.out; omega)
      have v7 : (k < N) = True := eq_true (by have := HnN.out; omega)
      have v8 : (0 ≤ (k : Int)) = True := eq_true (by omega)
      have v9 : IntKind.i64.wrap ((k : Int) + 1) = (N : Int) := by rw [IntWalk.i64_in _ (by have := HNS.out; have := HS.out; omega)]; have := HnN.out; omega
      obtain ⟨hcell, hfro⟩ := own_at_of (d := (⟨#[]⟩ : ByteArray)) HO.out (k : Int) (by omega) (by have := HnN.out; omega)
      rw [Int.toNat_natCast] at hcell hfro
      have hst := own_store_of HO.out (k : Int) r
      rw [Int.toNat_natCast, ← HK.out.1, rep_set r (by rw [HK.out.1]; have := HnN.out; omega), HK.out.1] at hst
      have HST := Aside0.mk hst
      have HSP := Aside0.mk hsp
      clear hst hsp
      go_wp2_with fail
      go_ret
      refine ⟨g, rfl, ?_, below_set HB.out (by rw [HG.out]; exact Nat.le_refl _)⟩
      have h := HST.out.1
      rw [show N - (done ++ [r]).length = 0 by rw [List.length_append, HK.out.1, HnN.out]; exact Nat.sub_self _, List.replicate_zero, List.append_nil, ← HSP.out, ← HE.out] at h
      exact h
theorem split_calls (s : ByteArray) (w : World) (hs : s.size ≤ 1000000) :
    Calls Tryd.prog 40 #[.string s, .string ⟨#[32]⟩] w fun e w' => ∃ g : Nat, e = .returned (.slice (some ⟨g, 0, none⟩) (splitB s).length (splitB s).length) ∧ w'.ownsRow w.heap.size 9 1 (.slice (some ⟨g, 0, none⟩) (splitB s).length (splitB s).length) (splitB s).length (encs Value.string (splitB s)) ∧ Below w.heap.size w w' := by
  have GS := Aside0.mk (genSplit_calls s w hs)
  go_enter Tryd.func40, Tryd.ntmps40
  go_wp2_with (go_at_call 53; refine GS.out.mono ?_; rintro e w' ⟨g, rfl, ho, hb⟩)
  have HO := Aside0.mk ho
  have HB := Aside0.mk hb
  clear ho hb
  go_wp2_with fail
  go_ret
  exact ⟨g, rfl, HO.out, HB.out⟩
end Go.Proofs.YtbmjekekpmabbaaDoor.P
