/-
  EvalTurned behind its rounds: what the two rows hold is compared; the tail of the law's code.
-/
import Derived.Test.YtlnccofmkikbgaaGreatDoorTurnD
import Derived.BigQuiet
import Derived.Deep.CutRange
namespace Go.Proofs.YtlnccofmkikbgaaGreatDoor
open Go Go.RowKit

set_option maxRecDepth 100000 in
set_option maxHeartbeats 2000000 in
theorem turned_tail {w wr : World} {B p6 p7 pe pv pu pt pc : Nat} {tp : Addr} {x y : V} {asked : Value} {na : Nat} {L : List Value} (hT : TRel w wr B p6 p7 pe pv pu pt pc tp x y (rowF x y 14) (rowF y x 14) asked na L) (mx : mayG x = true) (my : mayG y = true) (x4 : x.tag ≠ 4) (y4 : y.tag ≠ 4)
    {u0 u1 u2 u3 u4 u5 u6 u7 u8 u11 u12 u13 u14 u15 u16 u17 u18 u19 u20 u21 u22 u23 u24 u25 u26 u27 u28 u29 u30 u31 u32 u33 u34 u35 u36 u37 u38 u39 u40 u41 u42 u43 u44 u45 u46 u47 u48 u49 u50 u51 u52 u53 u54 u55 u56 u57 u58 u59 u60 u61 u62 u63 u64 u65 u66 u67 u68 u69 u70 u71 u72 u73 u74 u75 u76 u77 u78 u79 u80 u81 u82 u83 u84 u85 u86 u87 u88 u89 u90 u91 u92 u93 u94 u95 u96 u97 u98 u99 u100 u101 u102 u103 u104 u105 u106 u107 u108 u109 u110 u111 u112 u113 u114 u115 u116 u117 u118 u119 u120 u121 u122 u123 u124 u125 u126 u127 u128 u129 u130 u131 u132 u133 u134 u135 u136 u137 u138 u139 u140 u141 u142 u143 u144 u145 u146 u147 u148 u149 u150 u151 u152 u153 u154 u155 u156 u157 u158 u159 u160 u161 u162 u163 u164 u165 u166 u167 u168 u169 u170 u171 u172 u173 u174 u175 u176 u177 u178 u179 u180 u181 u182 u183 u184 u185 u186 u187 u188 u189 u190 u191 u192 u193 u194 u195 u196 u197 u198 u199 u200 u201 u202 u203 u204 u205 u206 u207 u208 u209 u210 u211 u212 u213 u214 u215 u216 u217 u218 u219 u220 u221 u222 u223 u224 u225 u226 u227 u228 u229 : Value} :
    Code.wp Tryz.prog (snN 12 (Tryz.f5.body.getD .skip)) (bodyPost Tryz.prog Tryz.f5 fun e w' => e = .returned (.bool true) ∧ Below w.heap.size w w') { tmps := #[u0, u1, u2, u3, u4, u5, u6, u7, u8, .slice (some ⟨pv, 0, none⟩) 14 14, .slice (some ⟨pu, 0, none⟩) 14 14, u11, u12, u13, u14, u15, u16, u17, u18, u19, u20, u21, u22, u23, u24, u25, u26, u27, u28, u29, u30, u31, u32, u33, u34, u35, u36, u37, u38, u39, u40, u41, u42, u43, u44, u45, u46, u47, u48, u49, u50, u51, u52, u53, u54, u55, u56, u57, u58, u59, u60, u61, u62, u63, u64, u65, u66, u67, u68, u69, u70, u71, u72, u73, u74, u75, u76, u77, u78, u79, u80, u81, u82, u83, u84, u85, u86, u87, u88, u89, u90, u91, u92, u93, u94, u95, u96, u97, u98, u99, u100, u101, u102, u103, u104, u105, u106, u107, u108, u109, u110, u111, u112, u113, u114, u115, u116, u117, u118, u119, u120, u121, u122, u123, u124, u125, u126, u127, u128, u129, u130, u131, u132, u133, u134, u135, u136, u137, u138, u139, u140, u141, u142, u143, u144, u145, u146, u147, u148, u149, u150, u151, u152, u153, u154, u155, u156, u157, u158, u159, u160, u161, u162, u163, u164, u165, u166, u167, u168, u169, u170, u171, u172, u173, u174, u175, u176, u177, u178, u179, u180, u181, u182, u183, u184, u185, u186, u187, u188, u189, u190, u191, u192, u193, u194, u195, u196, u197, u198, u199, u200, u201, u202, u203, u204, u205, u206, u207, u208, u209, u210, u211, u212, u213, u214, u215, u216, u217, u218, u219, u220, u221, u222, u223, u224, u225, u226, u227, u228, u229], defers := [] } wr := by
  have HT := Lib.hid hT
  have X4 := x4
  have Y4 := y4
  obtain ⟨r3, hr3⟩ : ∃ r, twoG 64 3 x y = r := ⟨_, rfl⟩
  obtain ⟨r5, hr5⟩ : ∃ r, twoG 64 5 x y = r := ⟨_, rfl⟩
  obtain ⟨q, hq⟩ : ∃ q, cmpV x y = q := ⟨_, rfl⟩
  have E3 := Lib.hid ((rowF_at x y 14 3 rfl (by decide) (by decide)).trans hr3)
  have E5 := Lib.hid ((rowF_at x y 14 5 rfl (by decide) (by decide)).trans hr5)
  have D3 := Lib.hid ((rowF_at y x 14 3 rfl (by decide) (by decide)).trans ((two_sum_turn 3 (.inl rfl) x y mx my X4 Y4).trans hr3))
  have D5 := Lib.hid ((rowF_at y x 14 5 rfl (by decide) (by decide)).trans ((two_sum_turn 5 (.inr rfl) x y mx my X4 Y4).trans hr5))
  have hcnt := cnt_one q
  obtain ⟨n9, n11, n13⟩ := rel_ne q
  have e8 := (rowF_at x y 14 8 rfl (by decide) (by decide)).trans (two_cmp 8 (by decide) x y X4 Y4)
  have e9 := (rowF_at x y 14 9 rfl (by decide) (by decide)).trans (two_cmp 9 (by decide) x y X4 Y4)
  have e10 := (rowF_at x y 14 10 rfl (by decide) (by decide)).trans (two_cmp 10 (by decide) x y X4 Y4)
  have e11 := (rowF_at x y 14 11 rfl (by decide) (by decide)).trans (two_cmp 11 (by decide) x y X4 Y4)
  have e12 := (rowF_at x y 14 12 rfl (by decide) (by decide)).trans (two_cmp 12 (by decide) x y X4 Y4)
  have e13 := (rowF_at x y 14 13 rfl (by decide) (by decide)).trans (two_cmp 13 (by decide) x y X4 Y4)
  have d8 := (rowF_at y x 14 8 rfl (by decide) (by decide)).trans (two_cmp_turn 8 8 (by decide) (by decide) (by omega) x y X4 Y4)
  have d9 := (rowF_at y x 14 9 rfl (by decide) (by decide)).trans (two_cmp_turn 9 9 (by decide) (by decide) (by omega) x y X4 Y4)
  have d10 := (rowF_at y x 14 10 rfl (by decide) (by decide)).trans (two_cmp_turn 12 10 (by decide) (by decide) (by omega) x y X4 Y4)
  have d11 := (rowF_at y x 14 11 rfl (by decide) (by decide)).trans (two_cmp_turn 13 11 (by decide) (by decide) (by omega) x y X4 Y4)
  have d12 := (rowF_at y x 14 12 rfl (by decide) (by decide)).trans (two_cmp_turn 10 12 (by decide) (by decide) (by omega) x y X4 Y4)
  have d13 := (rowF_at y x 14 13 rfl (by decide) (by decide)).trans (two_cmp_turn 11 13 (by decide) (by decide) (by omega) x y X4 Y4)
  rw [hq] at e8 e9 e10 e11 e12 e13 d8 d9 d10 d11 d12 d13
  rw [n9] at e9 d9
  rw [n11] at e11 d13
  rw [n13] at e13 d11
  obtain ⟨b8, hb8⟩ : ∃ b, relX 8 q = b := ⟨_, rfl⟩
  obtain ⟨b10, hb10⟩ : ∃ b, relX 10 q = b := ⟨_, rfl⟩
  obtain ⟨b12, hb12⟩ : ∃ b, relX 12 q = b := ⟨_, rfl⟩
  rw [hb8] at e8 d8 e9 d9
  rw [hb10] at e10 d12 e13 d11
  rw [hb12] at e12 d10 e11 d13
  rw [hb8, hb10, hb12] at hcnt
  have E8 := Lib.hid e8
  have D8 := Lib.hid d8
  have E9 := Lib.hid e9
  have D9 := Lib.hid d9
  have E10 := Lib.hid e10
  have D10 := Lib.hid d10
  have E11 := Lib.hid e11
  have D11 := Lib.hid d11
  have E12 := Lib.hid e12
  have D12 := Lib.hid d12
  have E13 := Lib.hid e13
  have D13 := Lib.hid d13
  clear e8 d8 e9 d9 e10 d10 e11 d11 e12 d12 e13 d13 n9 n11 n13 hq hr3 hr5 hb8 hb10 hb12 hT X4 Y4 x4 y4 mx my
  rw [show snN 12 (Tryz.f5.body.getD .skip) = (fs (snN 12 (Tryz.f5.body.getD .skip))).seq ((fs (snN 13 (Tryz.f5.body.getD .skip))).seq ((fs (snN 14 (Tryz.f5.body.getD .skip))).seq ((fs (snN 15 (Tryz.f5.body.getD .skip))).seq (snN 16 (Tryz.f5.body.getD .skip))))) from rfl]
  conv => arg 2; arg 1; simp only [Tryz.f5, snN, fs, sn, Option.getD_some]
  conv => arg 2; arg 2; arg 1; simp only [Tryz.f5, snN, fs, sn, Option.getD_some]
  conv => arg 2; arg 2; arg 2; arg 1; simp only [Tryz.f5, snN, fs, sn, Option.getD_some]
  conv => arg 2; arg 2; arg 2; arg 2; arg 1; simp only [Tryz.f5, snN, fs, sn, Option.getD_some]
  have g1 := ne_self r3
  have g2 := ne_self r5
  have g3 := ne_truth
  go_wp2_with fail
  go_cut [128] (fun s wx => s = .bool false ∧ Below wr.heap.size wr wx)
  case first =>
    have v3_0 := HT.out.rv.at 3 0 15 (u := Value.int .i64 r3.tag) E3.out rfl rfl (by decide)
    have v3_1 := HT.out.rv.at 3 1 16 (u := Value.int .i64 r3.num) E3.out rfl rfl (by decide)
    have v3_2 := HT.out.rv.at 3 2 17 (u := Value.string r3.str) E3.out rfl rfl (by decide)
    have v3_3 := HT.out.rv.at 3 3 18 (u := Value.bool r3.is) E3.out rfl rfl (by decide)
    have v3_4 := HT.out.rv.at 3 4 19 (u := Value.int .i64 r3.code) E3.out rfl rfl (by decide)
    have u3_0 := HT.out.ru.at 3 0 15 (u := Value.int .i64 r3.tag) D3.out rfl rfl (by decide)
    have u3_1 := HT.out.ru.at 3 1 16 (u := Value.int .i64 r3.num) D3.out rfl rfl (by decide)
    have u3_2 := HT.out.ru.at 3 2 17 (u := Value.string r3.str) D3.out rfl rfl (by decide)
    have u3_3 := HT.out.ru.at 3 3 18 (u := Value.bool r3.is) D3.out rfl rfl (by decide)
    have u3_4 := HT.out.ru.at 3 4 19 (u := Value.int .i64 r3.code) D3.out rfl rfl (by decide)
    have v5_0 := HT.out.rv.at 5 0 25 (u := Value.int .i64 r5.tag) E5.out rfl rfl (by decide)
    have v5_1 := HT.out.rv.at 5 1 26 (u := Value.int .i64 r5.num) E5.out rfl rfl (by decide)
    have v5_2 := HT.out.rv.at 5 2 27 (u := Value.string r5.str) E5.out rfl rfl (by decide)
    have v5_3 := HT.out.rv.at 5 3 28 (u := Value.bool r5.is) E5.out rfl rfl (by decide)
    have v5_4 := HT.out.rv.at 5 4 29 (u := Value.int .i64 r5.code) E5.out rfl rfl (by decide)
    have u5_0 := HT.out.ru.at 5 0 25 (u := Value.int .i64 r5.tag) D5.out rfl rfl (by decide)
    have u5_1 := HT.out.ru.at 5 1 26 (u := Value.int .i64 r5.num) D5.out rfl rfl (by decide)
    have u5_2 := HT.out.ru.at 5 2 27 (u := Value.string r5.str) D5.out rfl rfl (by decide)
    have u5_3 := HT.out.ru.at 5 3 28 (u := Value.bool r5.is) D5.out rfl rfl (by decide)
    have u5_4 := HT.out.ru.at 5 4 29 (u := Value.int .i64 r5.code) D5.out rfl rfl (by decide)
    have v8_0 := HT.out.rv.at 8 0 40 (u := Value.int .i64 3) E8.out rfl rfl (by decide)
    have v8_1 := HT.out.rv.at 8 1 41 (u := Value.int .i64 0) E8.out rfl rfl (by decide)
    have v8_2 := HT.out.rv.at 8 2 42 (u := Value.string ⟨#[]⟩) E8.out rfl rfl (by decide)
    have v8_3 := HT.out.rv.at 8 3 43 (u := Value.bool b8) E8.out rfl rfl (by decide)
    have v8_4 := HT.out.rv.at 8 4 44 (u := Value.int .i64 0) E8.out rfl rfl (by decide)
    have u8_0 := HT.out.ru.at 8 0 40 (u := Value.int .i64 3) D8.out rfl rfl (by decide)
    have u8_1 := HT.out.ru.at 8 1 41 (u := Value.int .i64 0) D8.out rfl rfl (by decide)
    have u8_2 := HT.out.ru.at 8 2 42 (u := Value.string ⟨#[]⟩) D8.out rfl rfl (by decide)
    have u8_3 := HT.out.ru.at 8 3 43 (u := Value.bool b8) D8.out rfl rfl (by decide)
    have u8_4 := HT.out.ru.at 8 4 44 (u := Value.int .i64 0) D8.out rfl rfl (by decide)
    have v9_0 := HT.out.rv.at 9 0 45 (u := Value.int .i64 3) E9.out rfl rfl (by decide)
    have v9_1 := HT.out.rv.at 9 1 46 (u := Value.int .i64 0) E9.out rfl rfl (by decide)
    have v9_2 := HT.out.rv.at 9 2 47 (u := Value.string ⟨#[]⟩) E9.out rfl rfl (by decide)
    have v9_3 := HT.out.rv.at 9 3 48 (u := Value.bool (!b8)) E9.out rfl rfl (by decide)
    have v9_4 := HT.out.rv.at 9 4 49 (u := Value.int .i64 0) E9.out rfl rfl (by decide)
    have u9_0 := HT.out.ru.at 9 0 45 (u := Value.int .i64 3) D9.out rfl rfl (by decide)
    have u9_1 := HT.out.ru.at 9 1 46 (u := Value.int .i64 0) D9.out rfl rfl (by decide)
    have u9_2 := HT.out.ru.at 9 2 47 (u := Value.string ⟨#[]⟩) D9.out rfl rfl (by decide)
    have u9_3 := HT.out.ru.at 9 3 48 (u := Value.bool (!b8)) D9.out rfl rfl (by decide)
    have u9_4 := HT.out.ru.at 9 4 49 (u := Value.int .i64 0) D9.out rfl rfl (by decide)
    go_quiet (fail)
    all_goals go_wp2
    all_goals go_meet
    all_goals exact ⟨rfl, (by repeat (first | with_reducible exact Below.refl _ _ | with_reducible assumption | with_reducible refine below_more' ?_ (by go_size) | with_reducible refine bel_alloc ?_ _ (by go_size) | with_reducible refine Below.drew ?_ | with_reducible refine Below.setCell ?_ (by go_size) _ | with_reducible refine below_drewN ?_ _))⟩
  case rest =>
    obtain ⟨rfl, hbx⟩ := hcut
    have HT2 := Lib.hid (HT.out.below hbx)
    clear hbx
    go_wp2_with fail
    go_cut [162] (fun s wx => s = .bool false ∧ Below wc.heap.size wc wx)
    case first =>
      have v10_0 := HT2.out.rv.at 10 0 50 (u := Value.int .i64 3) E10.out rfl rfl (by decide)
      have v10_1 := HT2.out.rv.at 10 1 51 (u := Value.int .i64 0) E10.out rfl rfl (by decide)
      have v10_2 := HT2.out.rv.at 10 2 52 (u := Value.string ⟨#[]⟩) E10.out rfl rfl (by decide)
      have v10_3 := HT2.out.rv.at 10 3 53 (u := Value.bool b10) E10.out rfl rfl (by decide)
      have v10_4 := HT2.out.rv.at 10 4 54 (u := Value.int .i64 0) E10.out rfl rfl (by decide)
      have u10_0 := HT2.out.ru.at 10 0 50 (u := Value.int .i64 3) D10.out rfl rfl (by decide)
      have u10_1 := HT2.out.ru.at 10 1 51 (u := Value.int .i64 0) D10.out rfl rfl (by decide)
      have u10_2 := HT2.out.ru.at 10 2 52 (u := Value.string ⟨#[]⟩) D10.out rfl rfl (by decide)
      have u10_3 := HT2.out.ru.at 10 3 53 (u := Value.bool b12) D10.out rfl rfl (by decide)
      have u10_4 := HT2.out.ru.at 10 4 54 (u := Value.int .i64 0) D10.out rfl rfl (by decide)
      have v11_0 := HT2.out.rv.at 11 0 55 (u := Value.int .i64 3) E11.out rfl rfl (by decide)
      have v11_1 := HT2.out.rv.at 11 1 56 (u := Value.int .i64 0) E11.out rfl rfl (by decide)
      have v11_2 := HT2.out.rv.at 11 2 57 (u := Value.string ⟨#[]⟩) E11.out rfl rfl (by decide)
      have v11_3 := HT2.out.rv.at 11 3 58 (u := Value.bool (!b12)) E11.out rfl rfl (by decide)
      have v11_4 := HT2.out.rv.at 11 4 59 (u := Value.int .i64 0) E11.out rfl rfl (by decide)
      have u11_0 := HT2.out.ru.at 11 0 55 (u := Value.int .i64 3) D11.out rfl rfl (by decide)
      have u11_1 := HT2.out.ru.at 11 1 56 (u := Value.int .i64 0) D11.out rfl rfl (by decide)
      have u11_2 := HT2.out.ru.at 11 2 57 (u := Value.string ⟨#[]⟩) D11.out rfl rfl (by decide)
      have u11_3 := HT2.out.ru.at 11 3 58 (u := Value.bool (!b10)) D11.out rfl rfl (by decide)
      have u11_4 := HT2.out.ru.at 11 4 59 (u := Value.int .i64 0) D11.out rfl rfl (by decide)
      have v12_0 := HT2.out.rv.at 12 0 60 (u := Value.int .i64 3) E12.out rfl rfl (by decide)
      have v12_1 := HT2.out.rv.at 12 1 61 (u := Value.int .i64 0) E12.out rfl rfl (by decide)
      have v12_2 := HT2.out.rv.at 12 2 62 (u := Value.string ⟨#[]⟩) E12.out rfl rfl (by decide)
      have v12_3 := HT2.out.rv.at 12 3 63 (u := Value.bool b12) E12.out rfl rfl (by decide)
      have v12_4 := HT2.out.rv.at 12 4 64 (u := Value.int .i64 0) E12.out rfl rfl (by decide)
      have u12_0 := HT2.out.ru.at 12 0 60 (u := Value.int .i64 3) D12.out rfl rfl (by decide)
      have u12_1 := HT2.out.ru.at 12 1 61 (u := Value.int .i64 0) D12.out rfl rfl (by decide)
      have u12_2 := HT2.out.ru.at 12 2 62 (u := Value.string ⟨#[]⟩) D12.out rfl rfl (by decide)
      have u12_3 := HT2.out.ru.at 12 3 63 (u := Value.bool b10) D12.out rfl rfl (by decide)
      have u12_4 := HT2.out.ru.at 12 4 64 (u := Value.int .i64 0) D12.out rfl rfl (by decide)
      have v13_0 := HT2.out.rv.at 13 0 65 (u := Value.int .i64 3) E13.out rfl rfl (by decide)
      have v13_1 := HT2.out.rv.at 13 1 66 (u := Value.int .i64 0) E13.out rfl rfl (by decide)
      have v13_2 := HT2.out.rv.at 13 2 67 (u := Value.string ⟨#[]⟩) E13.out rfl rfl (by decide)
      have v13_3 := HT2.out.rv.at 13 3 68 (u := Value.bool (!b10)) E13.out rfl rfl (by decide)
      have v13_4 := HT2.out.rv.at 13 4 69 (u := Value.int .i64 0) E13.out rfl rfl (by decide)
      have u13_0 := HT2.out.ru.at 13 0 65 (u := Value.int .i64 3) D13.out rfl rfl (by decide)
      have u13_1 := HT2.out.ru.at 13 1 66 (u := Value.int .i64 0) D13.out rfl rfl (by decide)
      have u13_2 := HT2.out.ru.at 13 2 67 (u := Value.string ⟨#[]⟩) D13.out rfl rfl (by decide)
      have u13_3 := HT2.out.ru.at 13 3 68 (u := Value.bool (!b12)) D13.out rfl rfl (by decide)
      have u13_4 := HT2.out.ru.at 13 4 69 (u := Value.int .i64 0) D13.out rfl rfl (by decide)
      go_quiet (fail)
      all_goals go_wp2
      all_goals go_meet
      all_goals exact ⟨rfl, (by repeat (first | with_reducible exact Below.refl _ _ | with_reducible assumption | with_reducible refine below_more' ?_ (by go_size) | with_reducible refine bel_alloc ?_ _ (by go_size) | with_reducible refine Below.drew ?_ | with_reducible refine Below.setCell ?_ (by go_size) _ | with_reducible refine below_drewN ?_ _))⟩
    case rest =>
      obtain ⟨rfl, hbx⟩ := hcut
      have HT3 := Lib.hid (HT2.out.below hbx)
      clear hbx g1 g2 g3
      go_wp2_with fail
      go_loopw [15, 16] (fun n o wl => ∃ j : Int, 8 ≤ j ∧ j ≤ 14 ∧ o = .int .i64 j ∧ n = .int .i64 (cntT b8 b10 b12 j) ∧ wl = wc) (fun _ o _ => 14 - (intOf o).toNat)
      case atStart => exact ⟨8, by decide, by decide, rfl, by simp [cntT], rfl⟩
      case round =>
        obtain ⟨j, hj8, hj14, rfl, rfl, rfl⟩ := hrel
        obtain ⟨hc1, hc2⟩ := cntT_le b8 b10 b12 j
        have hj : j = 8 ∨ j = 9 ∨ j = 10 ∨ j = 11 ∨ j = 12 ∨ j = 13 ∨ j = 14 := by omega
        clear hj8 hj14
        rcases hj with rfl | rfl | rfl | rfl | rfl | rfl | rfl
        · have v0 := HT3.out.rv.at 8 0 40 (u := Value.int .i64 3) E8.out rfl rfl (by decide)
          have v3 := HT3.out.rv.at 8 3 43 (u := Value.bool b8) E8.out rfl rfl (by decide)
          obtain ⟨c, hcc⟩ : ∃ c, cntT b8 b10 b12 8 = c := ⟨_, rfl⟩
          have hn : cntT b8 b10 b12 9 = c + truthI b8 := by rw [← hcc]; simp [cntT]
          rw [hcc] at hc1 hc2 ⊢
          clear hcc hcnt
          have HN := Lib.hid hn
          clear hn
          clear E3 E5 D3 D5 E8 E9 E10 E11 E12 E13 D8 D9 D10 D11 D12 D13
          cases b8
          all_goals try simp only [Bool.not_true, Bool.not_false] at v3
          all_goals go_wp2
          all_goals exact ⟨⟨9, by decide, by decide, by go_num, by first | rfl | (rw [HN.out]; done) | (rw [HN.out]; simp [truthI]), by first | rfl | trivial⟩, by simp [intOf]⟩
        · have v0 := HT3.out.rv.at 9 0 45 (u := Value.int .i64 3) E9.out rfl rfl (by decide)
          have v3 := HT3.out.rv.at 9 3 48 (u := Value.bool (!b8)) E9.out rfl rfl (by decide)
          obtain ⟨c, hcc⟩ : ∃ c, cntT b8 b10 b12 9 = c := ⟨_, rfl⟩
          have hn : cntT b8 b10 b12 10 = c := by rw [← hcc]; simp [cntT]
          rw [hcc] at hc1 hc2 ⊢
          clear hcc hcnt
          have HN := Lib.hid hn
          clear hn
          clear E3 E5 D3 D5 E8 E9 E10 E11 E12 E13 D8 D9 D10 D11 D12 D13
          cases b8
          all_goals try simp only [Bool.not_true, Bool.not_false] at v3
          all_goals go_wp2
          all_goals exact ⟨⟨10, by decide, by decide, by go_num, by first | rfl | (rw [HN.out]; done) | (rw [HN.out]; simp [truthI]), by first | rfl | trivial⟩, by simp [intOf]⟩
        · have v0 := HT3.out.rv.at 10 0 50 (u := Value.int .i64 3) E10.out rfl rfl (by decide)
          have v3 := HT3.out.rv.at 10 3 53 (u := Value.bool b10) E10.out rfl rfl (by decide)
          obtain ⟨c, hcc⟩ : ∃ c, cntT b8 b10 b12 10 = c := ⟨_, rfl⟩
          have hn : cntT b8 b10 b12 11 = c + truthI b10 := by rw [← hcc]; simp [cntT]
          rw [hcc] at hc1 hc2 ⊢
          clear hcc hcnt
          have HN := Lib.hid hn
          clear hn
          clear E3 E5 D3 D5 E8 E9 E10 E11 E12 E13 D8 D9 D10 D11 D12 D13
          cases b10
          all_goals try simp only [Bool.not_true, Bool.not_false] at v3
          all_goals go_wp2
          all_goals exact ⟨⟨11, by decide, by decide, by go_num, by first | rfl | (rw [HN.out]; done) | (rw [HN.out]; simp [truthI]), by first | rfl | trivial⟩, by simp [intOf]⟩
        · have v0 := HT3.out.rv.at 11 0 55 (u := Value.int .i64 3) E11.out rfl rfl (by decide)
          have v3 := HT3.out.rv.at 11 3 58 (u := Value.bool (!b12)) E11.out rfl rfl (by decide)
          obtain ⟨c, hcc⟩ : ∃ c, cntT b8 b10 b12 11 = c := ⟨_, rfl⟩
          have hn : cntT b8 b10 b12 12 = c := by rw [← hcc]; simp [cntT]
          rw [hcc] at hc1 hc2 ⊢
          clear hcc hcnt
          have HN := Lib.hid hn
          clear hn
          clear E3 E5 D3 D5 E8 E9 E10 E11 E12 E13 D8 D9 D10 D11 D12 D13
          cases b12
          all_goals try simp only [Bool.not_true, Bool.not_false] at v3
          all_goals go_wp2
          all_goals exact ⟨⟨12, by decide, by decide, by go_num, by first | rfl | (rw [HN.out]; done) | (rw [HN.out]; simp [truthI]), by first | rfl | trivial⟩, by simp [intOf]⟩
        · have v0 := HT3.out.rv.at 12 0 60 (u := Value.int .i64 3) E12.out rfl rfl (by decide)
          have v3 := HT3.out.rv.at 12 3 63 (u := Value.bool b12) E12.out rfl rfl (by decide)
          obtain ⟨c, hcc⟩ : ∃ c, cntT b8 b10 b12 12 = c := ⟨_, rfl⟩
          have hn : cntT b8 b10 b12 13 = c + truthI b12 := by rw [← hcc]; simp [cntT]
          rw [hcc] at hc1 hc2 ⊢
          clear hcc hcnt
          have HN := Lib.hid hn
          clear hn
          clear E3 E5 D3 D5 E8 E9 E10 E11 E12 E13 D8 D9 D10 D11 D12 D13
          cases b12
          all_goals try simp only [Bool.not_true, Bool.not_false] at v3
          all_goals go_wp2
          all_goals exact ⟨⟨13, by decide, by decide, by go_num, by first | rfl | (rw [HN.out]; done) | (rw [HN.out]; simp [truthI]), by first | rfl | trivial⟩, by simp [intOf]⟩
        · have v0 := HT3.out.rv.at 13 0 65 (u := Value.int .i64 3) E13.out rfl rfl (by decide)
          have v3 := HT3.out.rv.at 13 3 68 (u := Value.bool (!b10)) E13.out rfl rfl (by decide)
          obtain ⟨c, hcc⟩ : ∃ c, cntT b8 b10 b12 13 = c := ⟨_, rfl⟩
          have hn : cntT b8 b10 b12 14 = c := by rw [← hcc]; simp [cntT]
          rw [hcc] at hc1 hc2 ⊢
          clear hcc hcnt
          have HN := Lib.hid hn
          clear hn
          clear E3 E5 D3 D5 E8 E9 E10 E11 E12 E13 D8 D9 D10 D11 D12 D13
          cases b10
          all_goals try simp only [Bool.not_true, Bool.not_false] at v3
          all_goals go_wp2
          all_goals exact ⟨⟨14, by decide, by decide, by go_num, by first | rfl | (rw [HN.out]; done) | (rw [HN.out]; simp [truthI]), by first | rfl | trivial⟩, by simp [intOf]⟩
        · have v8 := HT3.out.rv.at 8 3 43 (u := Value.bool b8) E8.out rfl rfl (by decide)
          have v9 := HT3.out.rv.at 9 3 48 (u := Value.bool (!b8)) E9.out rfl rfl (by decide)
          have v10 := HT3.out.rv.at 10 3 53 (u := Value.bool b10) E10.out rfl rfl (by decide)
          have v11 := HT3.out.rv.at 11 3 58 (u := Value.bool (!b12)) E11.out rfl rfl (by decide)
          have v12 := HT3.out.rv.at 12 3 63 (u := Value.bool b12) E12.out rfl rfl (by decide)
          have v13 := HT3.out.rv.at 13 3 68 (u := Value.bool (!b10)) E13.out rfl rfl (by decide)
          have hpv := HT3.out.rv.lt
          rw [hcnt]
          clear E3 E5 D3 D5 E8 E9 E10 E11 E12 E13 D8 D9 D10 D11 D12 D13 hc1 hc2
          cases b8 <;> cases b10 <;> cases b12
          all_goals try exact absurd hcnt (by decide)
          all_goals clear hcnt
          all_goals simp only [Bool.not_true, Bool.not_false] at v9 v11 v13
          all_goals go_wp2_with fail
          · exact turned_last_a HT3.out.base hpv v8 v9 v10 v11 v12 v13
          · exact turned_last_b HT3.out.base hpv v8 v9 v10 v11 v12 v13
          · exact turned_last_c HT3.out.base hpv v8 v9 v10 v11 v12 v13
end Go.Proofs.YtlnccofmkikbgaaGreatDoor
