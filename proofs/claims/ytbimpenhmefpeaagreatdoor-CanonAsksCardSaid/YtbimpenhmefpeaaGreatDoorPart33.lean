/- CanonAsks returns true, where the two expressions have a text together. -/
import Derived.Test.YtbimpenhmefpeaaGreatDoorPart31
set_option linter.all false
namespace Go.Proofs.YtbimpenhmefpeaaGreatDoor
open Go.RowKit Go.Maps
variable {H : Nat → Prop}

set_option maxRecDepth 20000 in
set_option maxHeartbeats 100000000 in
theorem casks_some (a b : Int) (t1 : List UInt8) (text : List UInt8) (w : World) (hT : Tab w) (htx : text.length < 9223372036854775808) (h1 : (Pv.shared (Pv.exOf a) (Pv.exOf b) 1000).2 = some (some t1)) : Calls Tryz.prog 3 #[.int .i64 a, .int .i64 b, Str text] w fun e w' => e = .returned (.bool true) ∧ Below w.heap.size w w' := by
  have hhd := head_any w hT
  have HHd := Lib.hid hhd
  have HS0 := Lib.hid h1
  clear h1
  have HT0 := Lib.hid hT
  clear hhd hT
  go_enter Tryz.func3, Tryz.ntmps3
  go_wp2_with fail
  refine HHd.out.mono ?_
  rintro e w1 ⟨rfl, hk1⟩
  have HT1 := Lib.hid (HT0.out.keep hk1 (fun h => h))
  have HW1 := Lib.hid (hk1.below (Nat.le_refl w.heap.size) (fun _ h => h.elim))
  clear hk1 HHd HT0
  go_wp2_with fail
  · go_ret
    exact ⟨rfl, HW1.out⟩
  rename_i hlen
  have hle : text.length ≤ 20 := by omega
  refine (expr_any a w1).mono ?_
  rintro e w2 ⟨bx, rfl, hx, hb2⟩
  have HX := Lib.hid hx
  have HT2 := Lib.hid (HT1.out.later hb2)
  have HW2 := Lib.hid (HW1.out.trans (hb2.mono HW1.out.size))
  clear hx hb2 HT1 HW1
  go_wp2_with fail
  refine (expr_any b w2).mono ?_
  rintro e w3 ⟨by_, rfl, hy, hb3⟩
  have hxm := Pv.exOf_mem a
  have hym := Pv.exOf_mem b
  obtain ⟨x, hxe⟩ : ∃ x, Pv.exOf a = x := ⟨_, rfl⟩
  obtain ⟨y, hye⟩ : ∃ y, Pv.exOf b = y := ⟨_, rfl⟩
  rw [hxe] at HX hxm
  rw [hye] at hy hym
  have HS1 : Hid ((Pv.shared x y 1000).2 = some (some t1)) := by rw [← hxe, ← hye]; exact HS0.out
  clear HS0
  have HX3 := Lib.hid (HX.out.later hb3)
  have HY3 := Lib.hid hy
  have HT3 := Lib.hid (HT2.out.later hb3)
  have HW3 := Lib.hid (HW2.out.trans (hb3.mono HW2.out.size))
  have HXm := Lib.hid hxm
  have HYm := Lib.hid hym
  clear hxe hye hxm hym hy hb3 HX HT2 HW2
  go_wp2_with fail
  obtain ⟨tb, htb⟩ : ∃ n, w3.heap.size = n := ⟨_, rfl⟩
  obtain ⟨w4, hw4⟩ : ∃ w4, w3.alloc (.cells #[.int .i64 5, .int .i64 7, Str [], .pointer none, Str [], Str [], .slice none 0 0] 30) = w4 := ⟨_, rfl⟩
  have hb4 : Below w3.heap.size w3 w4 := by rw [← hw4]; exact (Below.refl _ _).alloc (Nat.le_refl _) _
  have ht4 : TermAt w4 tb 5 7 [] (.pointer none) [] [] (.slice none 0 0) := by rw [← hw4]; exact blk_new htb
  rw [htb, hw4]
  clear hw4
  refine (grant_any 1000 (by decide) w4).mono ?_
  rintro e w5 ⟨rfl, hg5, hb5, hz5⟩
  have h05 : Below w3.heap.size w3 w5 := hb4.trans (hb5.mono hb4.size)
  have hb1w : w3.heap.size ≤ w4.heap.size := hb4.size
  have ht5 : TermAt w5 tb 5 7 [] (.pointer none) [] [] (.slice none 0 0) := later_blk hb5 ht4
  obtain ⟨b1, hb1⟩ : ∃ n, w4.heap.size = n := ⟨_, rfl⟩
  rw [hb1] at hg5 hz5 hb1w ⊢
  have HT5 := Lib.hid ht5
  have HG5 := Lib.hid hg5
  have htbl := blk_lt ht4
  rw [hb1] at htbl
  have H05 := Lib.hid h05
  clear hg5 ht5 h05 ht4 hb4 hb5
  go_wp2_with fail
  obtain ⟨c, hc⟩ : ∃ n, w5.heap.size = n := ⟨_, rfl⟩
  obtain ⟨w6, hw6⟩ : ∃ w6, w5.alloc (.cells #[Ptr b1, .int .i64 0, .int .i64 0, .int .i64 0, .bool false, Str [], .int .i64 0, .int .i64 0] 38) = w6 := ⟨_, rfl⟩
  obtain ⟨hc6, hg6, hb6, hcl⟩ := ck_new HG5.out hw6 hc
  rw [hc, hw6]
  clear hw6
  have HT6 := Lib.hid (later_blk hb6 HT5.out)
  have HC6 := Lib.hid hc6
  have HG6 := Lib.hid hg6
  have H06 := Lib.hid (H05.out.trans (hb6.mono H05.out.size))
  have hcw : w3.heap.size ≤ c := by have := H05.out.size; omega
  clear hc6 hg6 hb6 HT5 HG5 H05
  refine (grant_any 1000 (by decide) w6).mono ?_
  rintro e w7 ⟨rfl, hg7, hb7, hz7⟩
  obtain ⟨b2, hb2⟩ : ∃ n, w6.heap.size = n := ⟨_, rfl⟩
  rw [hb2] at hg7 hz7 ⊢
  have h07 := H06.out.trans (hb7.mono H06.out.size)
  have hb2w : w3.heap.size ≤ b2 := by have := H06.out.size; omega
  have hr1 := HS1.out
  have hxs := exl_size HXm.out
  have hys := exl_size HYm.out
  have hsh := shared_any (H := (· = b2)) x y bx by_ b2 1000 0 w7 (HT3.out.later h07) (re_at HX3.out h07 b2 hb2w) (re_at HY3.out h07 b2 hb2w) hg7 rfl (fun h e => by rw [e]; exact hz7) (by omega) (by omega)
  rw [hr1] at hsh
  have HSh := Lib.hid hsh
  have HR1 := Lib.hid hr1
  have HT7 := Lib.hid (later_blk hb7 HT6.out)
  have HC7 := Lib.hid (later_blk hb7 HC6.out)
  have HG7 := Lib.hid (HG6.out.later hb7)
  have H07 := Lib.hid h07
  clear hsh hr1 hg7 hb7 h07 HT6 HC6 HG6 H06
  go_wp2_with fail
  refine HSh.out.mono ?_
  rintro e w8 ⟨rfl, _, hk8⟩
  have hb2c : b2 ≠ c := by omega
  have hb2b : b2 ≠ b1 := by omega
  have hb2t : b2 ≠ tb := by omega
  have h08 : Below w3.heap.size w3 w8 := H07.out.trans (hk8.below H07.out.size fun z e => by rw [e]; exact hb2w)
  have hc8 : CkAt w8 c b1 {} := hk8.blk (fun e => hb2c e.symm) HC7.out
  have hg8 := HG7.out.keep hk8 (fun e => hb2b e.symm)
  have ht8 : TermAt w8 tb 5 7 [] (.pointer none) [] [] (.slice none 0 0) := hk8.blk (fun e => hb2t e.symm) HT7.out
  have hb1l : b1 < w8.heap.size := blk_lt hg8.2
  have hap := apart_any (H := (· = b1)) x y bx by_ c b1 1000 0 w8 (HT3.out.later h08) (re_at HX3.out h08 b1 hb1w) (re_at HY3.out h08 b1 hb1w) hg8 rfl (fun h e => by rw [e]; exact hb1l) (by omega) (by omega) hc8 tb 5 7 ht8.head true _ HR1.out
  have HAp := Lib.hid hap
  have HT8 := Lib.hid ht8
  have H08 := Lib.hid h08
  clear hap ht8 h08 hc8 hg8 hk8 HSh HT7 HC7 HG7 H07
  rw [wit_some]
  go_wp2_with fail
  refine HAp.out.mono ?_
  rintro e w9 ⟨rfl, hc9, ⟨l9, u9, hg9⟩, hk9⟩
  simp only [Option.isSome_some, Bool.not_true]
  have hc9' : CkAt w9 c b1 { e := 22, op := 5, at_ := 7, view := true, text := t1 } := hc9
  have hok := ok_any c b1 _ w9 hc9'
  have HOk := Lib.hid hok
  have HC9 := Lib.hid hc9'
  have HG9 := Lib.hid hg9
  have h09 : Below w3.heap.size w3 w9 := H08.out.trans (hk9.below H08.out.size fun z e => by rcases e with e | e <;> rw [e] <;> assumption)
  have ht9 : TermAt w9 tb 5 7 [] (.pointer none) [] [] (.slice none 0 0) := hk9.blk (by
    rintro (e | e)
    · omega
    · omega) HT8.out
  have HT9 := Lib.hid ht9
  have H09 := Lib.hid h09
  clear hok hc9 hc9' hg9 hk9 h09 ht9 HAp HT8 H08
  go_wp2_with fail
  refine HOk.out.mono ?_
  rintro e wx ⟨rfl, e1⟩
  subst e1
  have y0 : w9.cell? ⟨c, 0, none⟩ = some (Ptr b1) := HC9.out.cs.c0
  have y1 : w9.cell? ⟨c, 1, none⟩ = some (.int .i64 22) := HC9.out.cs.c1
  have y2 : w9.cell? ⟨c, 2, none⟩ = some (.int .i64 5) := HC9.out.cs.c2
  have y3 : w9.cell? ⟨c, 3, none⟩ = some (.int .i64 7) := HC9.out.cs.c3
  have y4 : w9.cell? ⟨c, 4, none⟩ = some (.bool true) := HC9.out.cs.c4
  have y5 : w9.cell? ⟨c, 5, none⟩ = some (Str t1) := HC9.out.cs.c5
  have y6 : w9.cell? ⟨c, 6, none⟩ = some (.int .i64 0) := HC9.out.cs.c6
  have y7 : w9.cell? ⟨c, 7, none⟩ = some (.int .i64 0) := HC9.out.cs.c7
  have z0 : (w9.alloc (.cells #[.int .i64 22, .int .i64 5, .int .i64 7, .bool true, Str t1, .int .i64 0, .int .i64 0] 36)).cell? ⟨c, 0, none⟩ = some (Ptr b1) := later ((Below.refl _ _).alloc (Nat.le_refl _) _) y0
  go_wp2_with fail
  obtain ⟨r, hr⟩ : ∃ n, w9.heap.size = n := ⟨_, rfl⟩
  obtain ⟨wa, hwa⟩ : ∃ wa, w9.alloc (.cells #[.int .i64 22, .int .i64 5, .int .i64 7, .bool true, Str t1, .int .i64 0, .int .i64 0] 36) = wa := ⟨_, rfl⟩
  have hba : Below w9.heap.size w9 wa := by rw [← hwa]; exact (Below.refl _ _).alloc (Nat.le_refl _) _
  have hra : wa.heap[r]? = some (.cells #[.int .i64 22, .int .i64 5, .int .i64 7, .bool true, Str t1, .int .i64 0, .int .i64 0] 36) := by rw [← hwa]; exact blk_new hr
  rw [hwa, hr]
  clear hwa z0 y0 y1 y2 y3 y4 y5 y6 y7 HOk
  have HCa : Hid (CkAt wa c b1 { e := 22, op := 5, at_ := 7, view := true, text := t1 }) := HC9.out.later hba
  have HGa := Lib.hid (HG9.out.later hba)
  have HRa := Lib.hid hra
  have huse := used_any b1 l9 u9 wa HGa.out
  have hfl := fail_not c b1 _ wa HCa.out (show (22 : Nat) ≠ 0 by decide) 26 (.pointer none) false text
  have HUse := Lib.hid huse
  have HFl := Lib.hid hfl
  have H0a := Lib.hid (H09.out.trans (hba.mono H09.out.size))
  have HTa : Hid (TermAt wa tb 5 7 [] (.pointer none) [] [] (.slice none 0 0)) := later_blk hba HT9.out
  clear huse hfl hba hra HG9 HC9 H09 HT9
  refine HUse.out.mono ?_
  rintro e wx ⟨rfl, e1⟩
  subst e1
  go_wp2_with fail
  refine HFl.out.mono ?_
  rintro e wx ⟨rfl, e1⟩
  subst e1
  clear HFl HUse
  go_wp2_with fail
  refine Eaq.region (Keep fun _ => False) (.mov 0 (.mov 1 (.mov 2 (.mov 3 (.mov 4 (.mov 5 (.mov 6 (.mov 7 (.mov 8 (.mov 9 (.mov 10 (.mov 11 (.mov 12 (.anc 13 (.mov 14 (.mov 15 (.mov 16 (.mov 17 (.mov 18 (.mov 19 (.anc 20 (.mov 21 (.mov 22 (.mov 23 (.mov 24 (.mov 25 (.anc 26 (.mov 27 (.mov 28 (.mov 29 (.mov 30 (.mov 31 (.anc 32 (.mov 33 (.mov 34 (.mov 35 (.mov 36 (.anc 37 (.anc 38 (.mov 39 (.mov 40 (.mov 41 (.mov 42 (.anc 43 (.mov 44 (.mov 45 (.mov 46 (.mov 47 (.mov 48 (.anc 49 (.mov 50 (.mov 51 (.mov 52 (.mov 53 (.mov 54 (.mov 55 (.mov 56 (.mov 57 (.mov 58 (.mov 59 (.mov 60 (.mov 61 (.mov 62 (.mov 63 (.mov 64 (.mov 66 (.anc 65 (.mov 67 (.mov 68 (.mov 69 Eag.Sch.fin)))))))))))))))))))))))))))))))))))))))))))))))))))))))))))))))))))))) [] [] (by as_aux_lemma => kernel_rfl) (by as_aux_lemma => kernel_rfl) (fun K ops hops hK => ?_)
  obtain ⟨ws, hws⟩ : ∃ ws, wa.drew = ws := ⟨_, rfl⟩
  have hbs : Below wa.heap.size wa ws := by rw [← hws]; exact (Below.refl _ _).drew
  rw [hws]
  clear hws
  have HCs : Hid (CkAt ws c b1 { e := 22, op := 5, at_ := 7, view := true, text := t1 }) := HCa.out.later hbs
  have HGs := Lib.hid (HGa.out.later hbs)
  have HRs := Lib.hid (later_blk hbs HRa.out)
  have H0s := Lib.hid (H0a.out.trans (hbs.mono H0a.out.size))
  have HTs : Hid (TermAt ws tb 5 7 [] (.pointer none) [] [] (.slice none 0 0)) := later_blk hbs HTa.out
  clear hbs HCa HGa HRa H0a HTa
  have nf : ¬ False := fun h => h
  have y0 : ws.cell? ⟨c, 0, none⟩ = some (Ptr b1) := HCs.out.cs.c0
  have y1 : ws.cell? ⟨c, 1, none⟩ = some (.int .i64 22) := HCs.out.cs.c1
  have y2 : ws.cell? ⟨c, 2, none⟩ = some (.int .i64 5) := HCs.out.cs.c2
  have y3 : ws.cell? ⟨c, 3, none⟩ = some (.int .i64 7) := HCs.out.cs.c3
  have y4 : ws.cell? ⟨c, 4, none⟩ = some (.bool true) := HCs.out.cs.c4
  have y5 : ws.cell? ⟨c, 5, none⟩ = some (Str t1) := HCs.out.cs.c5
  have y6 : ws.cell? ⟨c, 6, none⟩ = some (.int .i64 0) := HCs.out.cs.c6
  have y7 : ws.cell? ⟨c, 7, none⟩ = some (.int .i64 0) := HCs.out.cs.c7
  have x0 : ws.cell? ⟨r, 0, none⟩ = some (.int .i64 22) := cell_of_blk (o := 0) HRs.out rfl
  have x1 : ws.cell? ⟨r, 1, none⟩ = some (.int .i64 5) := cell_of_blk (o := 1) HRs.out rfl
  have x2 : ws.cell? ⟨r, 2, none⟩ = some (.int .i64 7) := cell_of_blk (o := 2) HRs.out rfl
  have x3 : ws.cell? ⟨r, 3, none⟩ = some (.bool true) := cell_of_blk (o := 3) HRs.out rfl
  have x4 : ws.cell? ⟨r, 4, none⟩ = some (Str t1) := cell_of_blk (o := 4) HRs.out rfl
  have x5 : ws.cell? ⟨r, 5, none⟩ = some (.int .i64 0) := cell_of_blk (o := 5) HRs.out rfl
  have x6 : ws.cell? ⟨r, 6, none⟩ = some (.int .i64 0) := cell_of_blk (o := 6) HRs.out rfl
  iterate 2
    first
      | (refine Eaq.mov hops rfl rfl rfl (fun w' hb => ?_) ?_
         · clear hb; go_simp)
      | (refine Eaq.movA hops rfl rfl (fun w' => ?_) ?_
         · go_simp)
    go_simp
  iterate 11
    refine Eaq.movG hops rfl rfl rfl (fun w' hb => ?_) ?_
    · have q0 := Keep.cell hb nf y0; have q1 := Keep.cell hb nf y1; have q2 := Keep.cell hb nf y2; have q3 := Keep.cell hb nf y3; have q4 := Keep.cell hb nf y4; have q5 := Keep.cell hb nf y5; have q6 := Keep.cell hb nf y6; have q7 := Keep.cell hb nf y7; have q8 := Keep.cell hb nf x0; have q9 := Keep.cell hb nf x1; have q10 := Keep.cell hb nf x2; have q11 := Keep.cell hb nf x3; have q12 := Keep.cell hb nf x4; have q13 := Keep.cell hb nf x5; have q14 := Keep.cell hb nf x6; clear hb; go_simp
    go_simp
  clear y0 y1 y2 y3 y4 y5 y6 y7 x0 x1 x2 x3 x4 x5 x6
  refine Eaq.ancG hops rfl rfl ?_
  go_wp2_with fail
  refine (alike_not c b1 _ ws HCs.out (show (22 : Nat) ≠ 0 by decide) tb false bx by_).mono ?_
  rintro e wx ⟨rfl, e1⟩
  subst e1
  refine ⟨Keep.refl _ _, ?_⟩
  iterate 6
    refine Eaq.movG hops rfl rfl rfl (fun w' hb => ?_) ?_
    · clear hb; go_simp
    go_simp
  refine Eaq.ancG hops rfl rfl ?_
  go_wp2_with fail
  refine (splits_not c b1 _ ws HCs.out (show (22 : Nat) ≠ 0 by decide) tb false bx by_).mono ?_
  rintro e wx ⟨rfl, e1⟩
  subst e1
  refine ⟨Keep.refl _ _, ?_⟩
  iterate 5
    refine Eaq.movG hops rfl rfl rfl (fun w' hb => ?_) ?_
    · clear hb; go_simp
    go_simp
  refine Eaq.ancG hops rfl rfl ?_
  go_wp2_with fail
  refine (iterates_not c b1 _ ws HCs.out (show (22 : Nat) ≠ 0 by decide) tb false bx).mono ?_
  rintro e wx ⟨rfl, e1⟩
  subst e1
  refine ⟨Keep.refl _ _, ?_⟩
  iterate 5
    refine Eaq.movG hops rfl rfl rfl (fun w' hb => ?_) ?_
    · clear hb; go_simp
    go_simp
  refine Eaq.ancG hops rfl rfl ?_
  go_wp2_with fail
  refine (alone_not c b1 _ ws HCs.out (show (22 : Nat) ≠ 0 by decide) tb bx [97]).mono ?_
  rintro e wx ⟨rfl, e1⟩
  subst e1
  refine ⟨Keep.refl _ _, ?_⟩
  iterate 4
    refine Eaq.movG hops rfl rfl rfl (fun w' hb => ?_) ?_
    · clear hb; go_simp
    go_simp
  refine Eaq.ancG hops rfl rfl ?_
  go_wp2_with fail
  refine (word_any (H := fun _ => False) [97] ws (fun _ h => h.elim) (by decide)).mono ?_
  rintro e wt ⟨bq, rfl, _, hbt⟩
  refine ⟨Keep.of_below hbt, ?_⟩
  have HCt : Hid (CkAt wt c b1 { e := 22, op := 5, at_ := 7, view := true, text := t1 }) := HCs.out.later hbt
  have HGt := Lib.hid (HGs.out.later hbt)
  have HRt := Lib.hid (later_blk hbt HRs.out)
  have H0t := Lib.hid (H0s.out.trans (hbt.mono H0s.out.size))
  have HTt : Hid (TermAt wt tb 5 7 [] (.pointer none) [] [] (.slice none 0 0)) := later_blk hbt HTs.out
  clear hbt HCs HGs HRs H0s HTs
  refine Eaq.ancG hops rfl rfl ?_
  go_wp2_with fail
  refine (within_not c b1 _ wt HCt.out (show (22 : Nat) ≠ 0 by decide) tb [97] bq).mono ?_
  rintro e wx ⟨rfl, e1⟩
  subst e1
  refine ⟨Keep.refl _ _, ?_⟩
  iterate 4
    refine Eaq.movG hops rfl rfl rfl (fun w' hb => ?_) ?_
    · clear hb; go_simp
    go_simp
  refine Eaq.ancG hops rfl rfl ?_
  go_wp2_with fail
  refine (side_not c b1 _ wt HCt.out (show (22 : Nat) ≠ 0 by decide) bx).mono ?_
  rintro e wx ⟨rfl, e1⟩
  subst e1
  refine ⟨Keep.refl _ _, ?_⟩
  iterate 5
    refine Eaq.movG hops rfl rfl rfl (fun w' hb => ?_) ?_
    · clear hb; go_simp
    go_simp
  refine Eaq.ancG hops rfl rfl ?_
  go_wp2_with fail
  refine (canon_not c b1 tb 7 [] [] [] (.slice none 0 0) _ wt HCt.out (show (22 : Nat) ≠ 0 by decide) HTt.out).mono ?_
  rintro e wx ⟨rfl, e1⟩
  subst e1
  refine ⟨Keep.refl _ _, ?_⟩
  have y0 : wt.cell? ⟨c, 0, none⟩ = some (Ptr b1) := HCt.out.cs.c0
  have y1 : wt.cell? ⟨c, 1, none⟩ = some (.int .i64 22) := HCt.out.cs.c1
  have y2 : wt.cell? ⟨c, 2, none⟩ = some (.int .i64 5) := HCt.out.cs.c2
  have y3 : wt.cell? ⟨c, 3, none⟩ = some (.int .i64 7) := HCt.out.cs.c3
  have y4 : wt.cell? ⟨c, 4, none⟩ = some (.bool true) := HCt.out.cs.c4
  have y5 : wt.cell? ⟨c, 5, none⟩ = some (Str t1) := HCt.out.cs.c5
  have y6 : wt.cell? ⟨c, 6, none⟩ = some (.int .i64 0) := HCt.out.cs.c6
  have y7 : wt.cell? ⟨c, 7, none⟩ = some (.int .i64 0) := HCt.out.cs.c7
  have x0 : wt.cell? ⟨r, 0, none⟩ = some (.int .i64 22) := cell_of_blk (o := 0) HRt.out rfl
  have x1 : wt.cell? ⟨r, 1, none⟩ = some (.int .i64 5) := cell_of_blk (o := 1) HRt.out rfl
  have x2 : wt.cell? ⟨r, 2, none⟩ = some (.int .i64 7) := cell_of_blk (o := 2) HRt.out rfl
  have x3 : wt.cell? ⟨r, 3, none⟩ = some (.bool true) := cell_of_blk (o := 3) HRt.out rfl
  have x4 : wt.cell? ⟨r, 4, none⟩ = some (Str t1) := cell_of_blk (o := 4) HRt.out rfl
  have x5 : wt.cell? ⟨r, 5, none⟩ = some (.int .i64 0) := cell_of_blk (o := 5) HRt.out rfl
  have x6 : wt.cell? ⟨r, 6, none⟩ = some (.int .i64 0) := cell_of_blk (o := 6) HRt.out rfl
  iterate 16
    refine Eaq.movG hops rfl rfl rfl (fun w' hb => ?_) ?_
    · have q0 := Keep.cell hb nf y0; have q1 := Keep.cell hb nf y1; have q2 := Keep.cell hb nf y2; have q3 := Keep.cell hb nf y3; have q4 := Keep.cell hb nf y4; have q5 := Keep.cell hb nf y5; have q6 := Keep.cell hb nf y6; have q7 := Keep.cell hb nf y7; have q8 := Keep.cell hb nf x0; have q9 := Keep.cell hb nf x1; have q10 := Keep.cell hb nf x2; have q11 := Keep.cell hb nf x3; have q12 := Keep.cell hb nf x4; have q13 := Keep.cell hb nf x5; have q14 := Keep.cell hb nf x6; clear hb; go_simp
    go_simp
  clear y0 y1 y2 y3 y4 y5 y6 y7 x0 x1 x2 x3 x4 x5 x6
  refine Eaq.ancG hops rfl rfl ?_
  go_wp2_with fail
  refine (used_any b1 l9 u9 wt HGt.out).mono ?_
  rintro e wx ⟨rfl, e1⟩
  subst e1
  refine ⟨Keep.refl _ _, ?_⟩
  iterate 2
    refine Eaq.movG hops rfl rfl rfl (fun w' hb => ?_) ?_
    · clear hb; go_simp
    go_simp
  iterate 1
    first
      | (refine Eaq.mov hops rfl rfl rfl (fun w' hb => ?_) ?_
         · clear hb; go_simp)
      | (refine Eaq.movA hops rfl rfl (fun w' => ?_) ?_
         · go_simp)
    go_simp
  refine Eaq.fin (hK _ _ ?_)
  clear hK hops
  go_simp
  go_wp2_with fail
  obtain ⟨ws, hws⟩ : ∃ ws, wt = ws := ⟨_, rfl⟩
  have H0s : Hid (Below w3.heap.size w3 ws) := by rw [← hws]; exact H0t.out
  have HTs : Hid (TermAt ws tb 5 7 [] (.pointer none) [] [] (.slice none 0 0)) := by rw [← hws]; exact HTt.out
  rw [hws]
  clear hws HTt H0t HCt HGt HRt HR1
  as_aux_lemma =>
    refine (grant_any 1000 (by decide) ws).mono ?_
    rintro e v1 ⟨rfl, gg1, gb1, gz1⟩
    obtain ⟨d2, hd2⟩ : ∃ n, ws.heap.size = n := ⟨_, rfl⟩
    rw [hd2] at gg1 gz1 ⊢
    have H01 := Lib.hid (H0s.out.trans (gb1.mono H0s.out.size))
    have HTv := Lib.hid (later_blk gb1 HTs.out)
    have htd := blk_lt HTs.out
    have GG1 := Lib.hid gg1
    have d2w : w3.heap.size ≤ d2 := by have := H0s.out.size; omega
    clear gg1 gb1 HTs H0s
    go_wp2_with fail
    obtain ⟨c2, hc2⟩ : ∃ n, v1.heap.size = n := ⟨_, rfl⟩
    obtain ⟨v2, hv2⟩ : ∃ v2, v1.alloc (.cells #[Ptr d2, .int .i64 0, .int .i64 0, .int .i64 0, .bool false, Str [], .int .i64 0, .int .i64 0] 38) = v2 := ⟨_, rfl⟩
    obtain ⟨ck2, gg2, gb2, gl2⟩ := ck_new GG1.out hv2 hc2
    rw [hc2, hv2]
    refine (grant_any 1000 (by decide) v2).mono ?_
    rintro e v3 ⟨rfl, gg3, gb3, gz3⟩
    obtain ⟨d3, hd3⟩ : ∃ n, v2.heap.size = n := ⟨_, rfl⟩
    rw [hd3] at gg3 gz3 ⊢
    have h13 : Below v1.heap.size v1 v3 := gb2.trans (gb3.mono gb2.size)
    have h03 := H01.out.trans (h13.mono H01.out.size)
    have d3w : w3.heap.size ≤ d3 := by omega
    obtain ⟨r2, hr2⟩ := exL_unlike HXm.out HYm.out
    have hun := unlike_any (H := (· = d3)) x y bx by_ d3 1000 0 v3 (HT3.out.later h03) (re_at HX3.out h03 d3 d3w) (re_at HY3.out h03 d3 d3w) gg3 rfl (fun h e => by rw [e]; exact gz3) (by omega) (by omega)
    rw [hr2] at hun
    have HUn := Lib.hid hun
    have HR2 := Lib.hid hr2
    have HTv3 : Hid (TermAt v3 tb 5 7 [] (.pointer none) [] [] (.slice none 0 0)) := later_blk h13 HTv.out
    have HC2 : Hid (CkAt v3 c2 d2 {}) := later_blk gb3 ck2
    have HD2 := Lib.hid (gg2.later gb3)
    have H03 := Lib.hid h03
    clear hv2 ck2 gg2 gb2 gg3 gb3 h13 h03 hun hr2 GG1 H01 HTv
    go_wp2_with fail
    refine HUn.out.mono ?_
    rintro e v4 ⟨rfl, _, gk4⟩
    obtain ⟨t2, ok2, wf2, is2, as2⟩ := wit_form r2
    rw [wf2]
    have gs4 := gk4.size
    have h04 := H03.out.trans (gk4.below H03.out.size fun z e => by rw [e]; exact d3w)
    have HC24 := Lib.hid (HC2.out.keep gk4 (show ¬ c2 = d3 by omega))
    have HD24 := Lib.hid (HD2.out.keep gk4 (show ¬ d2 = d3 by omega))
    have HTv4 : Hid (TermAt v4 tb 5 7 [] (.pointer none) [] [] (.slice none 0 0)) := gk4.blk (show ¬ tb = d3 by omega) HTv3.out
    have H04 := Lib.hid h04
    have HAs2 := Lib.hid as2
    have HIs2 := Lib.hid is2
    clear gk4 h04 HUn HC2 HD2 HTv3 H03 wf2 as2 is2
    go_wp2_with fail
    refine (grant_any 1000 (by decide) v4).mono ?_
    rintro e v5 ⟨rfl, gg5, gb5, gz5⟩
    obtain ⟨d4, hd4⟩ : ∃ n, v4.heap.size = n := ⟨_, rfl⟩
    rw [hd4] at gg5 gz5 ⊢
    have GG5 := Lib.hid gg5
    have GB5 := Lib.hid gb5
    clear gg5 gb5
    go_wp2_with fail
    obtain ⟨c3, hc3⟩ : ∃ n, v5.heap.size = n := ⟨_, rfl⟩
    obtain ⟨v6, hv6⟩ : ∃ v6, v5.alloc (.cells #[Ptr d4, .int .i64 0, .int .i64 0, .int .i64 0, .bool false, Str [], .int .i64 0, .int .i64 0] 38) = v6 := ⟨_, rfl⟩
    obtain ⟨ck6, gg6, gb6, gl6⟩ := ck_new GG5.out hv6 hc3
    rw [hc3, hv6]
    clear hv6
    refine (word_any (H := fun _ => False) text v6 (fun _ h => h.elim) (by omega)).mono ?_
    rintro e v7 ⟨bw, rfl, hw7, gb7⟩
    have CK6 := Lib.hid ck6
    have GG6 := Lib.hid gg6
    have GB6 := Lib.hid gb6
    have HW7 := Lib.hid hw7
    have GB7 := Lib.hid gb7
    clear ck6 gg6 gb6 hw7 gb7 GG5
    go_wp2_with fail
    refine (grant_any 1000 (by decide) v7).mono ?_
    rintro e v8 ⟨rfl, gg8, gb8, gz8⟩
    obtain ⟨d5, hd5⟩ : ∃ n, v7.heap.size = n := ⟨_, rfl⟩
    rw [hd5] at gg8 gz8 ⊢
    have gs5 := GB5.out.size
    have gs6 := GB6.out.size
    have gs7 := GB7.out.size
    have h68 : Below v6.heap.size v6 v8 := GB7.out.trans (gb8.mono GB7.out.size)
    have h58 : Below v5.heap.size v5 v8 := GB6.out.trans (h68.mono GB6.out.size)
    have h48 : Below v4.heap.size v4 v8 := GB5.out.trans (h58.mono GB5.out.size)
    have h08 := H04.out.trans (h48.mono H04.out.size)
    have gs04 := H04.out.size
    have d5w : w3.heap.size ≤ d5 := by omega
    have d4w : w3.heap.size ≤ d4 := by omega
    obtain ⟨r3, hr3⟩ := exL_outside HXm.out text hle
    have hou := outside_any (H := (· = d5)) x (Pv.word text) bx bw d5 1000 0 v8 (HT3.out.later h08) (re_at HX3.out h08 d5 d5w) ((HW7.out.widen fun z e => .inr (by rw [e]; omega)).later gb8) gg8 rfl (fun h e => by rw [e]; exact gz8) (by have := size_wordl text; omega) (by omega)
    rw [hr3] at hou
    have HOu := Lib.hid hou
    have HR3 := Lib.hid hr3
    have HTv8 : Hid (TermAt v8 tb 5 7 [] (.pointer none) [] [] (.slice none 0 0)) := later_blk h48 HTv4.out
    have HC28 : Hid (CkAt v8 c2 d2 {}) := later_blk h48 HC24.out
    have HD28 := Lib.hid (HD24.out.later h48)
    have HC38 : Hid (CkAt v8 c3 d4 {}) := later_blk h68 CK6.out
    have HD48 := Lib.hid (GG6.out.later h68)
    have H08' := Lib.hid h08
    clear gg8 gb8 h68 h58 h48 h08 hou hr3 HTv4 HC24 HD24 H04 GB5 GB6 GB7 HW7 CK6 GG6
    go_wp2_with fail
    refine HOu.out.mono ?_
    rintro e v9 ⟨rfl, _, gk9⟩
    obtain ⟨t3, ok3, wf3, is3, as3⟩ := wit_form r3
    rw [wf3]
    have gs9 := gk9.size
    have h09 := H08'.out.trans (gk9.below H08'.out.size fun z e => by rw [e]; exact d5w)
    have HC29 : Hid (CkAt v9 c2 d2 {}) := HC28.out.keep gk9 (show ¬ c2 = d5 by omega)
    have HD29 := Lib.hid (HD28.out.keep gk9 (show ¬ d2 = d5 by omega))
    have HC39 : Hid (CkAt v9 c3 d4 {}) := HC38.out.keep gk9 (show ¬ c3 = d5 by omega)
    have HD49 := Lib.hid (HD48.out.keep gk9 (show ¬ d4 = d5 by omega))
    have HTv9 : Hid (TermAt v9 tb 5 7 [] (.pointer none) [] [] (.slice none 0 0)) := gk9.blk (show ¬ tb = d5 by omega) HTv8.out
    have HQ09 := Lib.hid h09
    have HAs3 := Lib.hid as3
    have HIs3 := Lib.hid is3
    clear gk9 h09 HOu HC28 HD28 HC38 HD48 HTv8 H08' wf3 as3 is3
    go_wp2_with fail
    refine (grant_any 1000 (by decide) v9).mono ?_
    rintro e va ⟨rfl, gga, gba, gza⟩
    obtain ⟨d6, hd6⟩ : ∃ n, v9.heap.size = n := ⟨_, rfl⟩
    rw [hd6] at gga gza ⊢
    have GGa := Lib.hid gga
    have GBa := Lib.hid gba
    clear gga gba
    go_wp2_with fail
    obtain ⟨c4, hc4⟩ : ∃ n, va.heap.size = n := ⟨_, rfl⟩
    obtain ⟨vb, hvb⟩ : ∃ vb, va.alloc (.cells #[Ptr d6, .int .i64 0, .int .i64 0, .int .i64 0, .bool false, Str [], .int .i64 0, .int .i64 0] 38) = vb := ⟨_, rfl⟩
    obtain ⟨ckb, ggb, gbb, glb⟩ := ck_new GGa.out hvb hc4
    rw [hc4, hvb]
    clear hvb
    have h9b : Below v9.heap.size v9 vb := GBa.out.trans (gbb.mono GBa.out.size)
    have h0b := HQ09.out.trans (h9b.mono HQ09.out.size)
    have hd2b : d2 < vb.heap.size := blk_lt (HD29.out.later h9b).2
    have htvb : TermAt vb tb 5 7 [] (.pointer none) [] [] (.slice none 0 0) := later_blk h9b HTv9.out
    have hal := alike_any (H := (· = d2)) x y bx by_ c2 d2 1000 0 vb (HT3.out.later h0b) (re_at HX3.out h0b d2 d2w) (re_at HY3.out h0b d2 d2w) (HD29.out.later h9b) rfl (fun h e => by rw [e]; exact hd2b) (by omega) (by omega) (HC29.out.later h9b) tb 5 7 htvb.head false r2 HR2.out
    have HAl := Lib.hid hal
    have HCbb : Hid (CkAt vb c4 d6 {}) := ckb
    have HC3b : Hid (CkAt vb c3 d4 {}) := later_blk h9b HC39.out
    have HD4b := Lib.hid (HD49.out.later h9b)
    have HTvb := Lib.hid htvb
    have HQ0b := Lib.hid h0b
    have gsb := h9b.size
    clear ckb ggb gbb h9b h0b htvb hal HC29 HD29 HC39 HD49 HTv9 HQ09 GGa GBa HR2
    go_wp2_with fail
    refine HAl.out.mono ?_
    rintro e vc ⟨rfl, ck2, _, gkc⟩
    rw [HIs2.out]
    rw [HAs2.out] at ck2
    have gkc' : ∀ z, z ≠ c2 → z ≠ d2 → ¬ askT c2 d2 z := fun z h1 h2 h => by
      rcases h with h | h
      · exact h1 h
      · exact h2 h
    have c2w : w3.heap.size ≤ c2 := by omega
    have h0c := HQ0b.out.trans (gkc.below HQ0b.out.size fun z e => by
      rcases e with e | e
      · rw [e]; exact c2w
      · rw [e]; exact d2w)
    have hc3c : CkAt vc c3 d4 {} := HC3b.out.keep gkc (gkc' c3 (by omega) (by omega))
    have hd4c := HD4b.out.keep gkc (gkc' d4 (by omega) (by omega))
    have hc4c : CkAt vc c4 d6 {} := HCbb.out.keep gkc (gkc' c4 (by omega) (by omega))
    have htvc : TermAt vc tb 5 7 [] (.pointer none) [] [] (.slice none 0 0) := gkc.blk (gkc' tb (by omega) (by omega)) HTvb.out
    have hd4l : d4 < vc.heap.size := blk_lt hd4c.2
    have hao := alone_any (H := (· = d4)) x text bx c3 d4 1000 0 vc (HT3.out.later h0c) (re_at HX3.out h0c d4 d4w) hd4c rfl (fun h e => by rw [e]; exact hd4l) (by omega) (by omega) (by omega) hc3c tb 5 7 htvc.head r3 HR3.out
    have HAo := Lib.hid hao
    have HC4c : Hid (CkAt vc c4 d6 {}) := hc4c
    have HTvc := Lib.hid htvc
    have HQ0c := Lib.hid h0c
    have CK2 := Lib.hid ck2
    have c3w : w3.heap.size ≤ c3 := by omega
    clear gkc gkc' h0c hc3c hd4c hc4c htvc hao ck2 HAl HCbb HC3b HD4b HTvb HQ0b HR3
    cases ok2 with
    | false => as_aux_lemma =>
      clear CK2
      go_wp2_with fail
      refine HAo.out.mono ?_
      rintro e vd ⟨rfl, ck3, _, gkd⟩
      rw [HIs3.out]
      rw [HAs3.out] at ck3
      have gkd' : ∀ z, z ≠ c3 → z ≠ d4 → ¬ askT c3 d4 z := fun z h1 h2 h => by
        rcases h with h | h
        · exact h1 h
        · exact h2 h
      have h0d := HQ0c.out.trans (gkd.below HQ0c.out.size fun z e => by
        rcases e with e | e
        · rw [e]; exact c3w
        · rw [e]; exact d4w)
      have hc4d : CkAt vd c4 d6 {} := HC4c.out.keep gkd (gkd' c4 (by omega) (by omega))
      have htvd : TermAt vd tb 5 7 [] (.pointer none) [] [] (.slice none 0 0) := gkd.blk (gkd' tb (by omega) (by omega)) HTvc.out
      have hwi := within_any (H := fun _ => False) (· ∈ exC) (fun r c hr => Pv.closedL_by exC_closed c hr) (fun r hr => by have := exC_size r hr; omega) x (exL_sub x HXm.out) text bx c4 d6 vd (HX3.out.later h0d) (fun _ h => h.elim) (by omega) hc4d tb 5 7 htvd.head
      have HWi := Lib.hid hwi
      have HQ0d := Lib.hid h0d
      have CK3 := Lib.hid ck3
      have c4w : w3.heap.size ≤ c4 := by omega
      clear gkd gkd' h0d hc4d htvd hwi ck3 HAo HC4c HTvc HQ0c
      cases ok3 with
      | false => as_aux_lemma =>
        clear CK3
        go_wp2_with fail
        refine HWi.out.mono ?_
        rintro e ve ⟨rfl, ck4, gke⟩
        have h0e := HQ0d.out.trans (gke.below HQ0d.out.size fun z e => by rw [e]; exact c4w)
        have hdm := dmatch_any (H := fun _ => False) (· ∈ exC) (fun r c hr => Pv.closedL_by exC_closed c hr) (fun r hr => by have := exC_size r hr; omega) x (exL_sub x HXm.out) bx text ve (HX3.out.later h0e) (fun _ h => h.elim) (by omega)
        have HDm := Lib.hid hdm
        have CK4 := Lib.hid ck4
        have HQ0e := Lib.hid h0e
        clear gke h0e hdm ck4 HWi HQ0d
        obtain ⟨m, hm⟩ : ∃ m, Pv.matchR text x = m := ⟨_, rfl⟩
        rw [hm] at HDm CK4
        rw [hm]
        cases m with
        | false => as_aux_lemma =>
          have CK4' : Hid (CkAt ve c4 d6 ({ e := 23, op := 5, at_ := 7, text := text } : Pv.Fault)) := CK4.out
          clear CK4
          go_wp2_with fail
          refine HDm.out.mono ?_
          rintro e vf ⟨rfl, gbf⟩
          have hok := ok_any c4 d6 ({ e := 23, op := 5, at_ := 7, text := text } : Pv.Fault) vf (later_blk gbf CK4'.out)
          have hdm := dmatch_any (H := fun _ => False) (· ∈ exC) (fun r c hr => Pv.closedL_by exC_closed c hr) (fun r hr => by have := exC_size r hr; omega) x (exL_sub x HXm.out) bx text vf (HX3.out.later (HQ0e.out.trans (gbf.mono HQ0e.out.size))) (fun _ h => h.elim) (by omega)
          rw [hm] at hdm
          have HOk := Lib.hid hok
          have HDm2 := Lib.hid hdm
          have HQ0f := Lib.hid (HQ0e.out.trans (gbf.mono HQ0e.out.size))
          clear gbf hok hdm HDm CK4' HQ0e
          go_wp2_with fail
          refine HOk.out.mono ?_
          rintro e vg ⟨rfl, e1⟩
          subst e1
          clear HOk
          go_wp2_with fail
          refine HDm2.out.mono ?_
          rintro e vg ⟨rfl, gbg⟩
          have HFin := Lib.hid (HQ0f.out.trans (gbg.mono HQ0f.out.size))
          clear HDm2 gbg HQ0f
          go_wp2_with fail
          go_ret
          exact ⟨rfl, HW3.out.trans (HFin.out.mono HW3.out.size)⟩
        | true => as_aux_lemma =>
          have CK4' : Hid (CkAt ve c4 d6 ({} : Pv.Fault)) := CK4.out
          clear CK4
          go_wp2_with fail
          refine HDm.out.mono ?_
          rintro e vf ⟨rfl, gbf⟩
          have hok := ok_any c4 d6 ({} : Pv.Fault) vf (later_blk gbf CK4'.out)
          have hdm := dmatch_any (H := fun _ => False) (· ∈ exC) (fun r c hr => Pv.closedL_by exC_closed c hr) (fun r hr => by have := exC_size r hr; omega) x (exL_sub x HXm.out) bx text vf (HX3.out.later (HQ0e.out.trans (gbf.mono HQ0e.out.size))) (fun _ h => h.elim) (by omega)
          rw [hm] at hdm
          have HOk := Lib.hid hok
          have HDm2 := Lib.hid hdm
          have HQ0f := Lib.hid (HQ0e.out.trans (gbf.mono HQ0e.out.size))
          clear gbf hok hdm HDm CK4' HQ0e
          go_wp2_with fail
          refine HOk.out.mono ?_
          rintro e vg ⟨rfl, e1⟩
          subst e1
          clear HOk
          go_wp2_with fail
          refine HDm2.out.mono ?_
          rintro e vg ⟨rfl, gbg⟩
          have HFin := Lib.hid (HQ0f.out.trans (gbg.mono HQ0f.out.size))
          clear HDm2 gbg HQ0f
          go_wp2_with fail
          go_ret
          exact ⟨rfl, HW3.out.trans (HFin.out.mono HW3.out.size)⟩
      | true => as_aux_lemma =>
        have ck3' : CkAt vd c3 d4 { e := 25, op := 5, at_ := 7, text := t3 } := CK3.out
        have CK3' := Lib.hid ck3'
        clear ck3' CK3
        have y0 : vd.cell? ⟨c3, 0, none⟩ = some (Ptr d4) := CK3'.out.cs.c0
        have y1 : vd.cell? ⟨c3, 1, none⟩ = some (.int .i64 25) := CK3'.out.cs.c1
        have y2 : vd.cell? ⟨c3, 2, none⟩ = some (.int .i64 5) := CK3'.out.cs.c2
        have y3 : vd.cell? ⟨c3, 3, none⟩ = some (.int .i64 7) := CK3'.out.cs.c3
        have y4 : vd.cell? ⟨c3, 4, none⟩ = some (.bool false) := CK3'.out.cs.c4
        have y5 : vd.cell? ⟨c3, 5, none⟩ = some (Str t3) := CK3'.out.cs.c5
        have y6 : vd.cell? ⟨c3, 6, none⟩ = some (.int .i64 0) := CK3'.out.cs.c6
        have y7 : vd.cell? ⟨c3, 7, none⟩ = some (.int .i64 0) := CK3'.out.cs.c7
        go_wp2_with fail
        clear y0 y1 y2 y3 y4 y5 y6 y7
        refine HWi.out.mono ?_
        rintro e ve ⟨rfl, ck4, gke⟩
        have h0e := HQ0d.out.trans (gke.below HQ0d.out.size fun z e => by rw [e]; exact c4w)
        have hdm := dmatch_any (H := fun _ => False) (· ∈ exC) (fun r c hr => Pv.closedL_by exC_closed c hr) (fun r hr => by have := exC_size r hr; omega) x (exL_sub x HXm.out) bx text ve (HX3.out.later h0e) (fun _ h => h.elim) (by omega)
        have HDm := Lib.hid hdm
        have CK4 := Lib.hid ck4
        have HQ0e := Lib.hid h0e
        clear gke h0e hdm ck4 HWi HQ0d
        obtain ⟨m, hm⟩ : ∃ m, Pv.matchR text x = m := ⟨_, rfl⟩
        rw [hm] at HDm CK4
        rw [hm]
        cases m with
        | false => as_aux_lemma =>
          have CK4' : Hid (CkAt ve c4 d6 ({ e := 23, op := 5, at_ := 7, text := text } : Pv.Fault)) := CK4.out
          clear CK4
          go_wp2_with fail
          refine HDm.out.mono ?_
          rintro e vf ⟨rfl, gbf⟩
          have hok := ok_any c4 d6 ({ e := 23, op := 5, at_ := 7, text := text } : Pv.Fault) vf (later_blk gbf CK4'.out)
          have hdm := dmatch_any (H := fun _ => False) (· ∈ exC) (fun r c hr => Pv.closedL_by exC_closed c hr) (fun r hr => by have := exC_size r hr; omega) x (exL_sub x HXm.out) bx text vf (HX3.out.later (HQ0e.out.trans (gbf.mono HQ0e.out.size))) (fun _ h => h.elim) (by omega)
          rw [hm] at hdm
          have HOk := Lib.hid hok
          have HDm2 := Lib.hid hdm
          have HQ0f := Lib.hid (HQ0e.out.trans (gbf.mono HQ0e.out.size))
          clear gbf hok hdm HDm CK4' HQ0e
          go_wp2_with fail
          refine HOk.out.mono ?_
          rintro e vg ⟨rfl, e1⟩
          subst e1
          clear HOk
          go_wp2_with fail
          refine HDm2.out.mono ?_
          rintro e vg ⟨rfl, gbg⟩
          have HFin := Lib.hid (HQ0f.out.trans (gbg.mono HQ0f.out.size))
          clear HDm2 gbg HQ0f
          go_wp2_with fail
          go_ret
          exact ⟨rfl, HW3.out.trans (HFin.out.mono HW3.out.size)⟩
        | true => as_aux_lemma =>
          have CK4' : Hid (CkAt ve c4 d6 ({} : Pv.Fault)) := CK4.out
          clear CK4
          go_wp2_with fail
          refine HDm.out.mono ?_
          rintro e vf ⟨rfl, gbf⟩
          have hok := ok_any c4 d6 ({} : Pv.Fault) vf (later_blk gbf CK4'.out)
          have hdm := dmatch_any (H := fun _ => False) (· ∈ exC) (fun r c hr => Pv.closedL_by exC_closed c hr) (fun r hr => by have := exC_size r hr; omega) x (exL_sub x HXm.out) bx text vf (HX3.out.later (HQ0e.out.trans (gbf.mono HQ0e.out.size))) (fun _ h => h.elim) (by omega)
          rw [hm] at hdm
          have HOk := Lib.hid hok
          have HDm2 := Lib.hid hdm
          have HQ0f := Lib.hid (HQ0e.out.trans (gbf.mono HQ0e.out.size))
          clear gbf hok hdm HDm CK4' HQ0e
          go_wp2_with fail
          refine HOk.out.mono ?_
          rintro e vg ⟨rfl, e1⟩
          subst e1
          clear HOk
          go_wp2_with fail
          refine HDm2.out.mono ?_
          rintro e vg ⟨rfl, gbg⟩
          have HFin := Lib.hid (HQ0f.out.trans (gbg.mono HQ0f.out.size))
          clear HDm2 gbg HQ0f
          go_wp2_with fail
          go_ret
          exact ⟨rfl, HW3.out.trans (HFin.out.mono HW3.out.size)⟩
    | true => as_aux_lemma =>
      have ck2' : CkAt vc c2 d2 { e := 24, op := 5, at_ := 7, text := t2 } := CK2.out
      have CK2' := Lib.hid ck2'
      clear ck2' CK2
      have y0 : vc.cell? ⟨c2, 0, none⟩ = some (Ptr d2) := CK2'.out.cs.c0
      have y1 : vc.cell? ⟨c2, 1, none⟩ = some (.int .i64 24) := CK2'.out.cs.c1
      have y2 : vc.cell? ⟨c2, 2, none⟩ = some (.int .i64 5) := CK2'.out.cs.c2
      have y3 : vc.cell? ⟨c2, 3, none⟩ = some (.int .i64 7) := CK2'.out.cs.c3
      have y4 : vc.cell? ⟨c2, 4, none⟩ = some (.bool false) := CK2'.out.cs.c4
      have y5 : vc.cell? ⟨c2, 5, none⟩ = some (Str t2) := CK2'.out.cs.c5
      have y6 : vc.cell? ⟨c2, 6, none⟩ = some (.int .i64 0) := CK2'.out.cs.c6
      have y7 : vc.cell? ⟨c2, 7, none⟩ = some (.int .i64 0) := CK2'.out.cs.c7
      go_wp2_with fail
      clear y0 y1 y2 y3 y4 y5 y6 y7
      refine HAo.out.mono ?_
      rintro e vd ⟨rfl, ck3, _, gkd⟩
      rw [HIs3.out]
      rw [HAs3.out] at ck3
      have gkd' : ∀ z, z ≠ c3 → z ≠ d4 → ¬ askT c3 d4 z := fun z h1 h2 h => by
        rcases h with h | h
        · exact h1 h
        · exact h2 h
      have h0d := HQ0c.out.trans (gkd.below HQ0c.out.size fun z e => by
        rcases e with e | e
        · rw [e]; exact c3w
        · rw [e]; exact d4w)
      have hc4d : CkAt vd c4 d6 {} := HC4c.out.keep gkd (gkd' c4 (by omega) (by omega))
      have htvd : TermAt vd tb 5 7 [] (.pointer none) [] [] (.slice none 0 0) := gkd.blk (gkd' tb (by omega) (by omega)) HTvc.out
      have hwi := within_any (H := fun _ => False) (· ∈ exC) (fun r c hr => Pv.closedL_by exC_closed c hr) (fun r hr => by have := exC_size r hr; omega) x (exL_sub x HXm.out) text bx c4 d6 vd (HX3.out.later h0d) (fun _ h => h.elim) (by omega) hc4d tb 5 7 htvd.head
      have HWi := Lib.hid hwi
      have HQ0d := Lib.hid h0d
      have CK3 := Lib.hid ck3
      have c4w : w3.heap.size ≤ c4 := by omega
      clear gkd gkd' h0d hc4d htvd hwi ck3 HAo HC4c HTvc HQ0c
      cases ok3 with
      | false => as_aux_lemma =>
        clear CK3
        go_wp2_with fail
        refine HWi.out.mono ?_
        rintro e ve ⟨rfl, ck4, gke⟩
        have h0e := HQ0d.out.trans (gke.below HQ0d.out.size fun z e => by rw [e]; exact c4w)
        have hdm := dmatch_any (H := fun _ => False) (· ∈ exC) (fun r c hr => Pv.closedL_by exC_closed c hr) (fun r hr => by have := exC_size r hr; omega) x (exL_sub x HXm.out) bx text ve (HX3.out.later h0e) (fun _ h => h.elim) (by omega)
        have HDm := Lib.hid hdm
        have CK4 := Lib.hid ck4
        have HQ0e := Lib.hid h0e
        clear gke h0e hdm ck4 HWi HQ0d
        obtain ⟨m, hm⟩ : ∃ m, Pv.matchR text x = m := ⟨_, rfl⟩
        rw [hm] at HDm CK4
        rw [hm]
        cases m with
        | false => as_aux_lemma =>
          have CK4' : Hid (CkAt ve c4 d6 ({ e := 23, op := 5, at_ := 7, text := text } : Pv.Fault)) := CK4.out
          clear CK4
          go_wp2_with fail
          refine HDm.out.mono ?_
          rintro e vf ⟨rfl, gbf⟩
          have hok := ok_any c4 d6 ({ e := 23, op := 5, at_ := 7, text := text } : Pv.Fault) vf (later_blk gbf CK4'.out)
          have hdm := dmatch_any (H := fun _ => False) (· ∈ exC) (fun r c hr => Pv.closedL_by exC_closed c hr) (fun r hr => by have := exC_size r hr; omega) x (exL_sub x HXm.out) bx text vf (HX3.out.later (HQ0e.out.trans (gbf.mono HQ0e.out.size))) (fun _ h => h.elim) (by omega)
          rw [hm] at hdm
          have HOk := Lib.hid hok
          have HDm2 := Lib.hid hdm
          have HQ0f := Lib.hid (HQ0e.out.trans (gbf.mono HQ0e.out.size))
          clear gbf hok hdm HDm CK4' HQ0e
          go_wp2_with fail
          refine HOk.out.mono ?_
          rintro e vg ⟨rfl, e1⟩
          subst e1
          clear HOk
          go_wp2_with fail
          refine HDm2.out.mono ?_
          rintro e vg ⟨rfl, gbg⟩
          have HFin := Lib.hid (HQ0f.out.trans (gbg.mono HQ0f.out.size))
          clear HDm2 gbg HQ0f
          go_wp2_with fail
          go_ret
          exact ⟨rfl, HW3.out.trans (HFin.out.mono HW3.out.size)⟩
        | true => as_aux_lemma =>
          have CK4' : Hid (CkAt ve c4 d6 ({} : Pv.Fault)) := CK4.out
          clear CK4
          go_wp2_with fail
          refine HDm.out.mono ?_
          rintro e vf ⟨rfl, gbf⟩
          have hok := ok_any c4 d6 ({} : Pv.Fault) vf (later_blk gbf CK4'.out)
          have hdm := dmatch_any (H := fun _ => False) (· ∈ exC) (fun r c hr => Pv.closedL_by exC_closed c hr) (fun r hr => by have := exC_size r hr; omega) x (exL_sub x HXm.out) bx text vf (HX3.out.later (HQ0e.out.trans (gbf.mono HQ0e.out.size))) (fun _ h => h.elim) (by omega)
          rw [hm] at hdm
          have HOk := Lib.hid hok
          have HDm2 := Lib.hid hdm
          have HQ0f := Lib.hid (HQ0e.out.trans (gbf.mono HQ0e.out.size))
          clear gbf hok hdm HDm CK4' HQ0e
          go_wp2_with fail
          refine HOk.out.mono ?_
          rintro e vg ⟨rfl, e1⟩
          subst e1
          clear HOk
          go_wp2_with fail
          refine HDm2.out.mono ?_
          rintro e vg ⟨rfl, gbg⟩
          have HFin := Lib.hid (HQ0f.out.trans (gbg.mono HQ0f.out.size))
          clear HDm2 gbg HQ0f
          go_wp2_with fail
          go_ret
          exact ⟨rfl, HW3.out.trans (HFin.out.mono HW3.out.size)⟩
      | true => as_aux_lemma =>
        have ck3' : CkAt vd c3 d4 { e := 25, op := 5, at_ := 7, text := t3 } := CK3.out
        have CK3' := Lib.hid ck3'
        clear ck3' CK3
        have y0 : vd.cell? ⟨c3, 0, none⟩ = some (Ptr d4) := CK3'.out.cs.c0
        have y1 : vd.cell? ⟨c3, 1, none⟩ = some (.int .i64 25) := CK3'.out.cs.c1
        have y2 : vd.cell? ⟨c3, 2, none⟩ = some (.int .i64 5) := CK3'.out.cs.c2
        have y3 : vd.cell? ⟨c3, 3, none⟩ = some (.int .i64 7) := CK3'.out.cs.c3
        have y4 : vd.cell? ⟨c3, 4, none⟩ = some (.bool false) := CK3'.out.cs.c4
        have y5 : vd.cell? ⟨c3, 5, none⟩ = some (Str t3) := CK3'.out.cs.c5
        have y6 : vd.cell? ⟨c3, 6, none⟩ = some (.int .i64 0) := CK3'.out.cs.c6
        have y7 : vd.cell? ⟨c3, 7, none⟩ = some (.int .i64 0) := CK3'.out.cs.c7
        go_wp2_with fail
        clear y0 y1 y2 y3 y4 y5 y6 y7
        refine HWi.out.mono ?_
        rintro e ve ⟨rfl, ck4, gke⟩
        have h0e := HQ0d.out.trans (gke.below HQ0d.out.size fun z e => by rw [e]; exact c4w)
        have hdm := dmatch_any (H := fun _ => False) (· ∈ exC) (fun r c hr => Pv.closedL_by exC_closed c hr) (fun r hr => by have := exC_size r hr; omega) x (exL_sub x HXm.out) bx text ve (HX3.out.later h0e) (fun _ h => h.elim) (by omega)
        have HDm := Lib.hid hdm
        have CK4 := Lib.hid ck4
        have HQ0e := Lib.hid h0e
        clear gke h0e hdm ck4 HWi HQ0d
        obtain ⟨m, hm⟩ : ∃ m, Pv.matchR text x = m := ⟨_, rfl⟩
        rw [hm] at HDm CK4
        rw [hm]
        cases m with
        | false => as_aux_lemma =>
          have CK4' : Hid (CkAt ve c4 d6 ({ e := 23, op := 5, at_ := 7, text := text } : Pv.Fault)) := CK4.out
          clear CK4
          go_wp2_with fail
          refine HDm.out.mono ?_
          rintro e vf ⟨rfl, gbf⟩
          have hok := ok_any c4 d6 ({ e := 23, op := 5, at_ := 7, text := text } : Pv.Fault) vf (later_blk gbf CK4'.out)
          have hdm := dmatch_any (H := fun _ => False) (· ∈ exC) (fun r c hr => Pv.closedL_by exC_closed c hr) (fun r hr => by have := exC_size r hr; omega) x (exL_sub x HXm.out) bx text vf (HX3.out.later (HQ0e.out.trans (gbf.mono HQ0e.out.size))) (fun _ h => h.elim) (by omega)
          rw [hm] at hdm
          have HOk := Lib.hid hok
          have HDm2 := Lib.hid hdm
          have HQ0f := Lib.hid (HQ0e.out.trans (gbf.mono HQ0e.out.size))
          clear gbf hok hdm HDm CK4' HQ0e
          go_wp2_with fail
          refine HOk.out.mono ?_
          rintro e vg ⟨rfl, e1⟩
          subst e1
          clear HOk
          go_wp2_with fail
          refine HDm2.out.mono ?_
          rintro e vg ⟨rfl, gbg⟩
          have HFin := Lib.hid (HQ0f.out.trans (gbg.mono HQ0f.out.size))
          clear HDm2 gbg HQ0f
          go_wp2_with fail
          go_ret
          exact ⟨rfl, HW3.out.trans (HFin.out.mono HW3.out.size)⟩
        | true => as_aux_lemma =>
          have CK4' : Hid (CkAt ve c4 d6 ({} : Pv.Fault)) := CK4.out
          clear CK4
          go_wp2_with fail
          refine HDm.out.mono ?_
          rintro e vf ⟨rfl, gbf⟩
          have hok := ok_any c4 d6 ({} : Pv.Fault) vf (later_blk gbf CK4'.out)
          have hdm := dmatch_any (H := fun _ => False) (· ∈ exC) (fun r c hr => Pv.closedL_by exC_closed c hr) (fun r hr => by have := exC_size r hr; omega) x (exL_sub x HXm.out) bx text vf (HX3.out.later (HQ0e.out.trans (gbf.mono HQ0e.out.size))) (fun _ h => h.elim) (by omega)
          rw [hm] at hdm
          have HOk := Lib.hid hok
          have HDm2 := Lib.hid hdm
          have HQ0f := Lib.hid (HQ0e.out.trans (gbf.mono HQ0e.out.size))
          clear gbf hok hdm HDm CK4' HQ0e
          go_wp2_with fail
          refine HOk.out.mono ?_
          rintro e vg ⟨rfl, e1⟩
          subst e1
          clear HOk
          go_wp2_with fail
          refine HDm2.out.mono ?_
          rintro e vg ⟨rfl, gbg⟩
          have HFin := Lib.hid (HQ0f.out.trans (gbg.mono HQ0f.out.size))
          clear HDm2 gbg HQ0f
          go_wp2_with fail
          go_ret
          exact ⟨rfl, HW3.out.trans (HFin.out.mono HW3.out.size)⟩
end Go.Proofs.YtbimpenhmefpeaaGreatDoor
