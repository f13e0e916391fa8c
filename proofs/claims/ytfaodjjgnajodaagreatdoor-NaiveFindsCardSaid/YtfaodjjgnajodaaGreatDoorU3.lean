/- What was run ahead, as a context: level 3, printed by program. -/
import Derived.Test.YtfaodjjgnajodaaGreatDoorV2a
namespace Go.Proofs.YtfaodjjgnajodaaGreatDoor
open Go Go.Abs
set_option maxRecDepth 100000
noncomputable def se3n79 : List Sm := [s0, s1, s2, s3, s4, s5, s6, s7, s8, s9, s10, s11, s12, s14, s18, s22, s26, s30, s31]
noncomputable def se3n18 : List Sm := [s13]
noncomputable def se3n19 : List Sm := [s15, s19, s23, s27, s32]
noncomputable def se3n48 : List Sm := [s16, s20, s24, s28, s33, s35, s37, s39, s41, s43]
noncomputable def se3n20 : List Sm := [s17, s21, s25, s29, s34, s36, s38, s40, s42, s44]
noncomputable def se3n63 : List Sm := [s45, s46, s47, s48, s49, s50, s51, s52, s53, s54, s55, s56, s57, s58, s59]
noncomputable def se3n29 : List Sm := [s60, s61, s62, s63, s64, s65, s66, s67, s68, s69, s70, s71, s72, s73, s74, s75, s76, s77, s78, s79, s80, s81, s82, s83, s84, s85, s86, s87, s88, s89, s90, s91, s92, s93, s94, s95, s96, s97, s98, s99, s100, s101, s102, s103, s104, s105, s106, s107, s108, s109, s110, s111, s112, s113, s114, s115, s116, s117, s118, s119, s120, s121, s122, s123, s124, s125, s126, s127, s128, s129, s130, s131, s132, s133, s134, s135, s136, s137, s138, s139, s140, s141, s142, s143, s144, s145, s146, s147, s148, s149, s150, s151, s152, s153, s154, s155, s156, s157, s158, s159, s160, s161, s162, s163, s164, s165, s166, s167, s168, s169, s170, s171, s172, s173, s174, s175, s176, s177, s178, s179]
noncomputable def tb3n15 : T (List Sm) := .node (.node (.node .leaf (some se3n63) .leaf) none .leaf) none (.node (.node .leaf (some se3n79) .leaf) none .leaf)
noncomputable def tb3n7 : T (List Sm) := .node tb3n15 none .leaf
noncomputable def tb3n17 : T (List Sm) := .node .leaf (some se3n19) .leaf
noncomputable def tb3n8 : T (List Sm) := .node tb3n17 none .leaf
noncomputable def tb3n3 : T (List Sm) := .node tb3n7 none tb3n8
noncomputable def tb3n22 : T (List Sm) := .node .leaf (some se3n29) .leaf
noncomputable def tb3n10 : T (List Sm) := .node .leaf none tb3n22
noncomputable def tb3n4 : T (List Sm) := .node .leaf none tb3n10
noncomputable def tb3n1 : T (List Sm) := .node tb3n3 none tb3n4
noncomputable def tb3n23 : T (List Sm) := .node .leaf none (.node .leaf (some se3n48) .leaf)
noncomputable def tb3n11 : T (List Sm) := .node tb3n23 none .leaf
noncomputable def tb3n25 : T (List Sm) := .node .leaf (some se3n20) .leaf
noncomputable def tb3n12 : T (List Sm) := .node tb3n25 none .leaf
noncomputable def tb3n5 : T (List Sm) := .node tb3n11 none tb3n12
noncomputable def tb3n27 : T (List Sm) := .node .leaf (some se3n18) .leaf
noncomputable def tb3n13 : T (List Sm) := .node tb3n27 none .leaf
noncomputable def tb3n6 : T (List Sm) := .node tb3n13 none .leaf
noncomputable def tb3n2 : T (List Sm) := .node tb3n5 none tb3n6
noncomputable def tb3n0 : T (List Sm) := .node tb3n1 none tb3n2
noncomputable def tb3 : T (List Sm) := tb3n0
noncomputable def tl3 : List (Nat × List Sm) := [(79, se3n79), (18, se3n18), (19, se3n19), (48, se3n48), (20, se3n20), (63, se3n63), (29, se3n29)]
noncomputable def CX3 : Ctx := ⟨Tryz.prog, fnT, allSm Tryz.prog XT tb3⟩
theorem cx3 : CtxOk Tryz.prog ENV CX3 := ctx_ok (l := tl3) (by kernel_rfl) (by kernel_rfl) (.cons (.cons (i0) (.cons (i1) (.cons (i2) (.cons (i3) (.cons (i4) (.cons (i5) (.cons (i6) (.cons (i7) (.cons (i8) (.cons (i9) (.cons (i10) (.cons (i11) (.cons (i12) (.cons (i14) (.cons (i18) (.cons (i22) (.cons (i26) (.cons (i30) (.cons (i31) (.nil)))))))))))))))))))) (.cons (.cons (i13) (.nil)) (.cons (.cons (i15) (.cons (i19) (.cons (i23) (.cons (i27) (.cons (i32) (.nil)))))) (.cons (.cons (i16) (.cons (i20) (.cons (i24) (.cons (i28) (.cons (i33) (.cons (i35) (.cons (i37) (.cons (i39) (.cons (i41) (.cons (i43) (.nil))))))))))) (.cons (.cons (i17) (.cons (i21) (.cons (i25) (.cons (i29) (.cons (i34) (.cons (i36) (.cons (i38) (.cons (i40) (.cons (i42) (.cons (i44) (.nil))))))))))) (.cons (.cons (i45) (.cons (i46) (.cons (i47) (.cons (i48) (.cons (i49) (.cons (i50) (.cons (i51) (.cons (i52) (.cons (i53) (.cons (i54) (.cons (i55) (.cons (i56) (.cons (i57) (.cons (i58) (.cons (i59) (.nil)))))))))))))))) (.cons (.cons (i60) (.cons (i61) (.cons (i62) (.cons (i63) (.cons (i64) (.cons (i65) (.cons (i66) (.cons (i67) (.cons (i68) (.cons (i69) (.cons (i70) (.cons (i71) (.cons (i72) (.cons (i73) (.cons (i74) (.cons (i75) (.cons (i76) (.cons (i77) (.cons (i78) (.cons (i79) (.cons (i80) (.cons (i81) (.cons (i82) (.cons (i83) (.cons (i84) (.cons (i85) (.cons (i86) (.cons (i87) (.cons (i88) (.cons (i89) (.cons (i90) (.cons (i91) (.cons (i92) (.cons (i93) (.cons (i94) (.cons (i95) (.cons (i96) (.cons (i97) (.cons (i98) (.cons (i99) (.cons (i100) (.cons (i101) (.cons (i102) (.cons (i103) (.cons (i104) (.cons (i105) (.cons (i106) (.cons (i107) (.cons (i108) (.cons (i109) (.cons (i110) (.cons (i111) (.cons (i112) (.cons (i113) (.cons (i114) (.cons (i115) (.cons (i116) (.cons (i117) (.cons (i118) (.cons (i119) (.cons (i120) (.cons (i121) (.cons (i122) (.cons (i123) (.cons (i124) (.cons (i125) (.cons (i126) (.cons (i127) (.cons (i128) (.cons (i129) (.cons (i130) (.cons (i131) (.cons (i132) (.cons (i133) (.cons (i134) (.cons (i135) (.cons (i136) (.cons (i137) (.cons (i138) (.cons (i139) (.cons (i140) (.cons (i141) (.cons (i142) (.cons (i143) (.cons (i144) (.cons (i145) (.cons (i146) (.cons (i147) (.cons (i148) (.cons (i149) (.cons (i150) (.cons (i151) (.cons (i152) (.cons (i153) (.cons (i154) (.cons (i155) (.cons (i156) (.cons (i157) (.cons (i158) (.cons (i159) (.cons (i160) (.cons (i161) (.cons (i162) (.cons (i163) (.cons (i164) (.cons (i165) (.cons (i166) (.cons (i167) (.cons (i168) (.cons (i169) (.cons (i170) (.cons (i171) (.cons (i172) (.cons (i173) (.cons (i174) (.cons (i175) (.cons (i176) (.cons (i177) (.cons (i178) (.cons (i179) (.nil))))))))))))))))))))))))))))))))))))))))))))))))))))))))))))))))))))))))))))))))))))))))))))))))))))))))))))))))))))))))) (.nil))))))))
end Go.Proofs.YtfaodjjgnajodaaGreatDoor
