/- Part 8 of 11 of the proof: the lemmas and contracts of KHead .. KHead. -/
import Derived.Test.YtbjaehfboanglaaGreatDoorWAG
set_option linter.unusedVariables false
set_option linter.unusedSimpArgs false
namespace Go.AL.KH
open Go Go.Proofs
set_option maxRecDepth 10000
def polM (f:FuncId):Nat:=bif Nat.testBit 732653438254055682467586973172544096310688691462838729500202819349294033736913226500246536161492790460425142078324560750590677698150924287 f then 1 else 0
def v1:AV:=.sl 1 [.int .i64 (2)] (some 1)
def v2:AV:=.sl 1 [.int .i64 (0)] (some 1)
def e1:Ent:=⟨116,[.agg [v1,.int .i64 (2)],v2],.agg [.int .i64 (1),.sl 1 [.int .i64 (0),.int .i64 (1)] none]⟩
theorem e1_ok:e1.Ok Tryz.prog:=Ent.ok (l:=[]) polM .nil Tryz.func116 rfl (by kernel_rfl)
def v3:AV:=.agg [.sl 2 [.agg [.str ⟨#[65]⟩,.bool false]] (some 1),.sl 3 [.agg [.str ⟨#[102]⟩,v2,.bool true]] (some 1),.nils,.nils]
def v4:AV:=.agg [.int .i64 (1),.sl 1 [.int .i64 (1)] (some 1)]
def v5:AV:=.sl 2 [.agg [.int .i64 (1),v2]] (some 1)
def v6:AV:=.sl 1 [.sl 2 [v4] (some 1),v5] (some 2)
def v7:AV:=.agg [v1,.int .i64 (2),v6,.int .i64 (0)]
def e2:Ent:=⟨66,[v3,v7],.bool true⟩
theorem e2_ok:e2.Ok Tryz.prog:=Ent.ok (l:=[e1]) polM (.cons e1_ok .nil) Tryz.func66 rfl (by kernel_rfl)
def v8:AV:=.agg [.int .i64 (1),.nils,.int .i64 (1),.sl 1 [.int .i64 (0),.int .i64 (1)] (some 2)]
def e3:Ent:=⟨120,[v8,v4],.bool true⟩
theorem e3_ok:e3.Ok Tryz.prog:=Ent.ok (l:=[]) polM .nil Tryz.func120 rfl (by kernel_rfl)
def e4:Ent:=⟨120,[v8,.agg [.int .i64 (1),v2]],.bool true⟩
theorem e4_ok:e4.Ok Tryz.prog:=Ent.ok (l:=[]) polM .nil Tryz.func120 rfl (by kernel_rfl)
def e5:Ent:=⟨55,[v3,.agg [v1,.int .i64 (2)],.sl 4 [v8] (some 1)],.rptr (.agg [.sl 1 [.int .i64 (2)] (some 1),.int .i64 (2),.sl 2 [.agg [.str ⟨#[65]⟩,.bool false]] (some 1),.sl 3 [.agg [.str ⟨#[102]⟩,.sl 1 [.int .i64 (0)] (some 1),.bool true]] (some 1),.nils,.nils,.sl 4 [.agg [.int .i64 (1),.nils,.int .i64 (1),.sl 1 [.int .i64 (0),.int .i64 (1)] (some 2)]] (some 1),.sl 2 [.agg [.int .i64 (0),.int .i64 (0)],.agg [.int .i64 (0),.int .i64 (1)]] none])⟩
theorem e5_ok:e5.Ok Tryz.prog:=Ent.ok (l:=[]) polM .nil Tryz.func55 rfl (by kernel_rfl)
def e6:Ent:=⟨18,[v3,.agg [v1,.int .i64 (2)],.sl 4 [v8] (some 1),v7],.tup [.sl 1 [.bool false,.bool true,.bool false,.bool true,.bool true,.bool false] (some 6),.bool true]⟩
theorem e6_ok:e6.Ok Tryz.prog:=Ent.ok (l:=[e2,e3,e4,e5]) polM (.cons e2_ok (.cons e3_ok (.cons e4_ok (.cons e5_ok .nil)))) Tryz.func18 rfl (by kernel_rfl)
def e7:Ent:=⟨18,[v3,.agg [v1,.int .i64 (2)],.sl 4 [v8] (some 1),.agg [v1,.int .i64 (2),v6,.int .i64 (2)]],.tup [.nils,.bool false]⟩
theorem e7_ok:e7.Ok Tryz.prog:=Ent.ok (l:=[]) polM .nil Tryz.func18 rfl (by kernel_rfl)
def v9:AV:=.agg [.int .i64 (0),.int .i64 (0),.int .i64 (0)]
def v10:AV:=.agg [.int .i64 (1),.int .i64 (1),.int .i64 (0)]
def v11:AV:=.agg [.int .i64 (1),.int .i64 (2),.int .i64 (0)]
def v12:AV:=.agg [.int .i64 (1),.int .i64 (3),.int .i64 (0)]
def v13:AV:=.agg [.int .i64 (1),.int .i64 (4),.int .i64 (0)]
def v14:AV:=.agg [.int .i64 (1),.int .i64 (5),.int .i64 (0)]
def v15:AV:=.agg [.int .i64 (1),.int .i64 (6),.int .i64 (0)]
def v16:AV:=.agg [.sl 3 [v9,v10,v11,v12,v13,v14,v15] none]
def v17:AV:=.agg [.int .i64 (1),.sl 2 [.agg [.int .i64 (0),.int .i64 (6)],.agg [.int .i64 (1),.int .i64 (8)]] none]
def v18:AV:=.agg [.int .i64 (1),.sl 2 [.agg [.int .i64 (0),.int .i64 (10)],.agg [.int .i64 (1),.int .i64 (12)]] none]
def v19:AV:=.sl 1 [.sl 2 [v17] none,.sl 2 [v18] none] none
def e8:Ent:=⟨16,[v3,.agg [v1,.int .i64 (2)],.sl 4 [v8] (some 1),.agg [.sl 3 [v9] (some 1)]],.tup [v16,v19]⟩
theorem e8_ok:e8.Ok Tryz.prog:=Ent.ok (l:=[e5]) polM (.cons e5_ok .nil) Tryz.func16 rfl (by kernel_rfl)
def e9:Ent:=⟨15,[v3,.agg [v1,.int .i64 (2)],.sl 4 [v8] (some 1)],.int .i64 (6)⟩
theorem e9_ok:e9.Ok Tryz.prog:=Ent.ok (l:=[e5]) polM (.cons e5_ok .nil) Tryz.func15 rfl (by kernel_rfl)
def e10:Ent:=⟨147,[v16,.int .i64 (1),.int .i64 (6)],.tup [v16,.int .i64 (6)]⟩
theorem e10_ok:e10.Ok Tryz.prog:=Ent.ok (l:=[]) polM .nil Tryz.func147 rfl (by kernel_rfl)
def v20:AV:=.agg [.int .i64 (2),.int .i64 (7),.int .i64 (9)]
def v21:AV:=.agg [.sl 3 [v9,v10,v11,v12,v13,v14,v15,v20] none]
def v22:AV:=.tup [v21,.int .i64 (14)]
def e11:Ent:=⟨146,[v16,.int .i64 (7),.int .i64 (9)],v22⟩
theorem e11_ok:e11.Ok Tryz.prog:=Ent.ok (l:=[]) polM .nil Tryz.func146 rfl (by kernel_rfl)
def e12:Ent:=⟨301,[v16,v17],.tup [v21,.int .i64 (15)]⟩
theorem e12_ok:e12.Ok Tryz.prog:=Ent.ok (l:=[e10,e11]) polM (.cons e10_ok (.cons e11_ok .nil)) Tryz.func301 rfl (by kernel_rfl)
def e13:Ent:=⟨147,[v21,.int .i64 (1),.int .i64 (14)],v22⟩
theorem e13_ok:e13.Ok Tryz.prog:=Ent.ok (l:=[]) polM .nil Tryz.func147 rfl (by kernel_rfl)
def e14:Ent:=⟨147,[v21,.int .i64 (1),.int .i64 (10)],.tup [v21,.int .i64 (10)]⟩
theorem e14_ok:e14.Ok Tryz.prog:=Ent.ok (l:=[]) polM .nil Tryz.func147 rfl (by kernel_rfl)
def v23:AV:=.agg [.int .i64 (2),.int .i64 (11),.int .i64 (13)]
def v24:AV:=.agg [.sl 3 [v9,v10,v11,v12,v13,v14,v15,v20,v23] none]
def e15:Ent:=⟨146,[v21,.int .i64 (11),.int .i64 (13)],.tup [v24,.int .i64 (16)]⟩
theorem e15_ok:e15.Ok Tryz.prog:=Ent.ok (l:=[]) polM .nil Tryz.func146 rfl (by kernel_rfl)
def e16:Ent:=⟨301,[v21,v18],.tup [v24,.int .i64 (17)]⟩
theorem e16_ok:e16.Ok Tryz.prog:=Ent.ok (l:=[e14,e15]) polM (.cons e14_ok (.cons e15_ok .nil)) Tryz.func301 rfl (by kernel_rfl)
def v25:AV:=.agg [.int .i64 (2),.int .i64 (15),.int .i64 (17)]
def v26:AV:=.agg [.sl 3 [v9,v10,v11,v12,v13,v14,v15,v20,v23,v25] none]
def e17:Ent:=⟨105,[v24,v25],.tup [v26,.int .i64 (18)]⟩
theorem e17_ok:e17.Ok Tryz.prog:=Ent.ok (l:=[]) polM .nil Tryz.func105 rfl (by kernel_rfl)
def e18:Ent:=⟨147,[v24,.int .i64 (14),.int .i64 (16)],.tup [v26,.int .i64 (19)]⟩
theorem e18_ok:e18.Ok Tryz.prog:=Ent.ok (l:=[e17]) polM (.cons e17_ok .nil) Tryz.func147 rfl (by kernel_rfl)
def v27:AV:=.agg [.int .i64 (49),.str ⟨#[]⟩,.int .i64 (0),.sl 5 [.agg [.int .i64 (35),.str ⟨#[]⟩,.int .i64 (0),.sl 5 [.agg [.int .i64 (1),.str ⟨#[102]⟩,.int .i64 (0),.nils,.int .i64 (0)]] (some 1),.int .i64 (0)]] (some 1),.int .i64 (0)]
def e19:Ent:=⟨88,[v3,.agg [v1,.int .i64 (2)],v19,.int .i64 (0),.int .i64 (0),.nils,v16,v27],.tup [v26,.int .i64 (19),.int .i64 (0)]⟩
theorem e19_ok:e19.Ok Tryz.prog:=Ent.ok (l:=[e12,e13,e16,e18]) polM (.cons e12_ok (.cons e13_ok (.cons e16_ok (.cons e18_ok .nil)))) Tryz.func88 rfl (by kernel_rfl)
def v28:AV:=.agg [.int .i64 (2),.int .i64 (4),.int .i64 (19)]
def v29:AV:=.agg [.sl 3 [v9,v10,v11,v12,v13,v14,v15,v20,v23,v25,v28] none]
def e20:Ent:=⟨105,[v26,v28],.tup [v29,.int .i64 (20)]⟩
theorem e20_ok:e20.Ok Tryz.prog:=Ent.ok (l:=[]) polM .nil Tryz.func105 rfl (by kernel_rfl)
def v30:AV:=.agg [.int .i64 (2),.int .i64 (3),.int .i64 (20)]
def v31:AV:=.agg [.sl 3 [v9,v10,v11,v12,v13,v14,v15,v20,v23,v25,v28,v30] none]
def e21:Ent:=⟨105,[v29,v30],.tup [v31,.int .i64 (22)]⟩
theorem e21_ok:e21.Ok Tryz.prog:=Ent.ok (l:=[]) polM .nil Tryz.func105 rfl (by kernel_rfl)
def e22:Ent:=⟨147,[v31,.int .i64 (1),.int .i64 (6)],.tup [v31,.int .i64 (6)]⟩
theorem e22_ok:e22.Ok Tryz.prog:=Ent.ok (l:=[]) polM .nil Tryz.func147 rfl (by kernel_rfl)
def v32:AV:=.tup [v31,.int .i64 (14)]
def e23:Ent:=⟨146,[v31,.int .i64 (7),.int .i64 (9)],v32⟩
theorem e23_ok:e23.Ok Tryz.prog:=Ent.ok (l:=[]) polM .nil Tryz.func146 rfl (by kernel_rfl)
def e24:Ent:=⟨301,[v31,v17],.tup [v31,.int .i64 (15)]⟩
theorem e24_ok:e24.Ok Tryz.prog:=Ent.ok (l:=[e22,e23]) polM (.cons e22_ok (.cons e23_ok .nil)) Tryz.func301 rfl (by kernel_rfl)
def e25:Ent:=⟨147,[v31,.int .i64 (1),.int .i64 (14)],v32⟩
theorem e25_ok:e25.Ok Tryz.prog:=Ent.ok (l:=[]) polM .nil Tryz.func147 rfl (by kernel_rfl)
def e26:Ent:=⟨147,[v31,.int .i64 (1),.int .i64 (10)],.tup [v31,.int .i64 (10)]⟩
theorem e26_ok:e26.Ok Tryz.prog:=Ent.ok (l:=[]) polM .nil Tryz.func147 rfl (by kernel_rfl)
def e27:Ent:=⟨146,[v31,.int .i64 (11),.int .i64 (13)],.tup [v31,.int .i64 (16)]⟩
theorem e27_ok:e27.Ok Tryz.prog:=Ent.ok (l:=[]) polM .nil Tryz.func146 rfl (by kernel_rfl)
def e28:Ent:=⟨301,[v31,v18],.tup [v31,.int .i64 (17)]⟩
theorem e28_ok:e28.Ok Tryz.prog:=Ent.ok (l:=[e26,e27]) polM (.cons e26_ok (.cons e27_ok .nil)) Tryz.func301 rfl (by kernel_rfl)
def e29:Ent:=⟨146,[v31,.int .i64 (15),.int .i64 (17)],.tup [v31,.int .i64 (18)]⟩
theorem e29_ok:e29.Ok Tryz.prog:=Ent.ok (l:=[]) polM .nil Tryz.func146 rfl (by kernel_rfl)
def e30:Ent:=⟨88,[v3,.agg [v1,.int .i64 (2)],v19,.int .i64 (1),.int .i64 (0),.nils,v31,v27],.tup [v31,.int .i64 (19),.int .i64 (0)]⟩
theorem e30_ok:e30.Ok Tryz.prog:=Ent.ok (l:=[e24,e25,e28,e29]) polM (.cons e24_ok (.cons e25_ok (.cons e28_ok (.cons e29_ok .nil)))) Tryz.func88 rfl (by kernel_rfl)
def v33:AV:=.agg [.int .i64 (2),.int .i64 (5),.int .i64 (19)]
def v34:AV:=.agg [.sl 3 [v9,v10,v11,v12,v13,v14,v15,v20,v23,v25,v28,v30,v33] none]
def e31:Ent:=⟨105,[v31,v33],.tup [v34,.int .i64 (24)]⟩
theorem e31_ok:e31.Ok Tryz.prog:=Ent.ok (l:=[]) polM .nil Tryz.func105 rfl (by kernel_rfl)
def v35:AV:=.agg [.int .i64 (2),.int .i64 (2),.int .i64 (24)]
def v36:AV:=.agg [.sl 3 [v9,v10,v11,v12,v13,v14,v15,v20,v23,v25,v28,v30,v33,v35] none]
def e32:Ent:=⟨105,[v34,v35],.tup [v36,.int .i64 (26)]⟩
theorem e32_ok:e32.Ok Tryz.prog:=Ent.ok (l:=[]) polM .nil Tryz.func105 rfl (by kernel_rfl)
def e33:Ent:=⟨147,[v36,.int .i64 (1),.int .i64 (22)],.tup [v36,.int .i64 (22)]⟩
theorem e33_ok:e33.Ok Tryz.prog:=Ent.ok (l:=[]) polM .nil Tryz.func147 rfl (by kernel_rfl)
def v37:AV:=.agg [.int .i64 (2),.int .i64 (23),.int .i64 (27)]
def v38:AV:=.agg [.sl 3 [v9,v10,v11,v12,v13,v14,v15,v20,v23,v25,v28,v30,v33,v35,v37] none]
def e34:Ent:=⟨105,[v36,v37],.tup [v38,.int .i64 (28)]⟩
theorem e34_ok:e34.Ok Tryz.prog:=Ent.ok (l:=[]) polM .nil Tryz.func105 rfl (by kernel_rfl)
def e35:Ent:=⟨147,[v36,.int .i64 (22),.int .i64 (26)],.tup [v38,.int .i64 (29)]⟩
theorem e35_ok:e35.Ok Tryz.prog:=Ent.ok (l:=[e34]) polM (.cons e34_ok .nil) Tryz.func147 rfl (by kernel_rfl)
def e36:Ent:=⟨35,[v3,.agg [v1,.int .i64 (2)],.sl 4 [v8] (some 1),v27],.tup [v38,.int .i64 (29),.int .i64 (0)]⟩
theorem e36_ok:e36.Ok Tryz.prog:=Ent.ok (l:=[e8,e9,e19,e20,e21,e30,e31,e32,e33,e35]) polM (.cons e8_ok (.cons e9_ok (.cons e19_ok (.cons e20_ok (.cons e21_ok (.cons e30_ok (.cons e31_ok (.cons e32_ok (.cons e33_ok (.cons e35_ok .nil)))))))))) Tryz.func35 rfl (by kernel_rfl)
def e37:Ent:=⟨35,[v3,.agg [v1,.int .i64 (2)],.sl 4 [v8] (some 1),.agg [.int .i64 (35),.str ⟨#[]⟩,.int .i64 (0),.sl 5 [.agg [.int .i64 (1),.str ⟨#[103]⟩,.int .i64 (0),.nils,.int .i64 (0)]] (some 1),.int .i64 (0)]],.tup [.agg [.nils],.int .i64 (0),.int .i64 (40)]⟩
theorem e37_ok:e37.Ok Tryz.prog:=Ent.ok (l:=[e9]) polM (.cons e9_ok .nil) Tryz.func35 rfl (by kernel_rfl)
def v39:AV:=.agg [.int .i64 (1),.nils]
def v40:AV:=.agg [.sl 1 [.int .i64 (2)] none,.int .i64 (2),.sl 1 [.sl 2 [v39] none,.sl 2 [.agg [.int .i64 (1),.sl 1 [.int .i64 (0)] none]] none] none,.int .i64 (0)]
def e38:Ent:=⟨24,[v3,.agg [v1,.int .i64 (2)],.sl 4 [v8] (some 1),.sl 1 [.bool true,.bool true,.bool false,.bool false,.bool true] (some 5)],v40⟩
theorem e38_ok:e38.Ok Tryz.prog:=Ent.ok (l:=[e5]) polM (.cons e5_ok .nil) Tryz.func24 rfl (by kernel_rfl)
def e39:Ent:=⟨23,[v40,.agg [v1,.int .i64 (2),.sl 1 [.sl 2 [v39] (some 1),v5] (some 2),.int .i64 (0)]],.bool true⟩
theorem e39_ok:e39.Ok Tryz.prog:=Ent.ok (l:=[]) polM .nil Tryz.func23 rfl (by kernel_rfl)
def e40:Ent:=⟨36,[v38,.sl 1 [.bool false,.bool true,.bool true,.bool true,.bool false,.bool false] (some 6),.int .i64 (29)],.bool true⟩
theorem e40_ok:e40.Ok Tryz.prog:=Ent.ok (l:=[]) polM .nil Tryz.func36 rfl (by kernel_rfl)
def e41:Ent:=⟨36,[v38,.sl 1 [.bool false,.bool true,.bool true,.bool true,.bool true,.bool false] (some 6),.int .i64 (29)],.bool false⟩
theorem e41_ok:e41.Ok Tryz.prog:=Ent.ok (l:=[]) polM .nil Tryz.func36 rfl (by kernel_rfl)
def e42:Ent:=⟨36,[v38,.sl 1 [.bool true,.bool true,.bool false,.bool false,.bool false,.bool false] (some 6),.int .i64 (29)],.bool false⟩
theorem e42_ok:e42.Ok Tryz.prog:=Ent.ok (l:=[]) polM .nil Tryz.func36 rfl (by kernel_rfl)
theorem c10 (h:List ABlk):ACall Tryz.prog 10 [] h (.ret (.bool true)) h:=(Ent.ok (e:=⟨10,[],.bool true⟩) (l:=[e6,e7,e8,e9,e36,e37,e38,e39,e40,e41,e42]) polM (.cons e6_ok (.cons e7_ok (.cons e8_ok (.cons e9_ok (.cons e36_ok (.cons e37_ok (.cons e38_ok (.cons e39_ok (.cons e40_ok (.cons e41_ok (.cons e42_ok .nil))))))))))) Tryz.func10 rfl (by kernel_rfl)).2 h
end Go.AL.KH
