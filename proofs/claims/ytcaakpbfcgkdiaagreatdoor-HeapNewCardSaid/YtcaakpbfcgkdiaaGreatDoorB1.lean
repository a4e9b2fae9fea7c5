/- The seat's table of types and functions. Conditions: none beyond what each theorem says. -/
import Derived.Test.YtcaakpbfcgkdiaaGreatDoorA4
import Derived.Test.YtcaakpbfcgkdiaaGreatDoorProg
import Derived.KernelRfl
import Derived.Laws.StructEq

/- MADE BY PROGRAM (trees.py): the seat's types and functions as trees. -/
namespace Go.Proofs.Abs
open Go
set_option maxRecDepth 1000000
noncomputable def tt_127 : NT TypeInfo := .node Tryz.t127 (NT.node Tryz.t255 NT.nil NT.nil) NT.nil
noncomputable def tt_63 : NT TypeInfo := .node Tryz.t63 tt_127 (NT.node Tryz.t191 NT.nil NT.nil)
noncomputable def tt_95 : NT TypeInfo := .node Tryz.t95 (NT.node Tryz.t159 NT.nil NT.nil) (NT.node Tryz.t223 NT.nil NT.nil)
noncomputable def tt_31 : NT TypeInfo := .node Tryz.t31 tt_63 tt_95
noncomputable def tt_79 : NT TypeInfo := .node Tryz.t79 (NT.node Tryz.t143 NT.nil NT.nil) (NT.node Tryz.t207 NT.nil NT.nil)
noncomputable def tt_111 : NT TypeInfo := .node Tryz.t111 (NT.node Tryz.t175 NT.nil NT.nil) (NT.node Tryz.t239 NT.nil NT.nil)
noncomputable def tt_47 : NT TypeInfo := .node Tryz.t47 tt_79 tt_111
noncomputable def tt_15 : NT TypeInfo := .node Tryz.t15 tt_31 tt_47
noncomputable def tt_71 : NT TypeInfo := .node Tryz.t71 (NT.node Tryz.t135 NT.nil NT.nil) (NT.node Tryz.t199 NT.nil NT.nil)
noncomputable def tt_103 : NT TypeInfo := .node Tryz.t103 (NT.node Tryz.t167 NT.nil NT.nil) (NT.node Tryz.t231 NT.nil NT.nil)
noncomputable def tt_39 : NT TypeInfo := .node Tryz.t39 tt_71 tt_103
noncomputable def tt_87 : NT TypeInfo := .node Tryz.t87 (NT.node Tryz.t151 NT.nil NT.nil) (NT.node Tryz.t215 NT.nil NT.nil)
noncomputable def tt_119 : NT TypeInfo := .node Tryz.t119 (NT.node Tryz.t183 NT.nil NT.nil) (NT.node Tryz.t247 NT.nil NT.nil)
noncomputable def tt_55 : NT TypeInfo := .node Tryz.t55 tt_87 tt_119
noncomputable def tt_23 : NT TypeInfo := .node Tryz.t23 tt_39 tt_55
noncomputable def tt_7 : NT TypeInfo := .node Tryz.t7 tt_15 tt_23
noncomputable def tt_67 : NT TypeInfo := .node Tryz.t67 (NT.node Tryz.t131 NT.nil NT.nil) (NT.node Tryz.t195 NT.nil NT.nil)
noncomputable def tt_99 : NT TypeInfo := .node Tryz.t99 (NT.node Tryz.t163 NT.nil NT.nil) (NT.node Tryz.t227 NT.nil NT.nil)
noncomputable def tt_35 : NT TypeInfo := .node Tryz.t35 tt_67 tt_99
noncomputable def tt_83 : NT TypeInfo := .node Tryz.t83 (NT.node Tryz.t147 NT.nil NT.nil) (NT.node Tryz.t211 NT.nil NT.nil)
noncomputable def tt_115 : NT TypeInfo := .node Tryz.t115 (NT.node Tryz.t179 NT.nil NT.nil) (NT.node Tryz.t243 NT.nil NT.nil)
noncomputable def tt_51 : NT TypeInfo := .node Tryz.t51 tt_83 tt_115
noncomputable def tt_19 : NT TypeInfo := .node Tryz.t19 tt_35 tt_51
noncomputable def tt_75 : NT TypeInfo := .node Tryz.t75 (NT.node Tryz.t139 NT.nil NT.nil) (NT.node Tryz.t203 NT.nil NT.nil)
noncomputable def tt_107 : NT TypeInfo := .node Tryz.t107 (NT.node Tryz.t171 NT.nil NT.nil) (NT.node Tryz.t235 NT.nil NT.nil)
noncomputable def tt_43 : NT TypeInfo := .node Tryz.t43 tt_75 tt_107
noncomputable def tt_91 : NT TypeInfo := .node Tryz.t91 (NT.node Tryz.t155 NT.nil NT.nil) (NT.node Tryz.t219 NT.nil NT.nil)
noncomputable def tt_123 : NT TypeInfo := .node Tryz.t123 (NT.node Tryz.t187 NT.nil NT.nil) (NT.node Tryz.t251 NT.nil NT.nil)
noncomputable def tt_59 : NT TypeInfo := .node Tryz.t59 tt_91 tt_123
noncomputable def tt_27 : NT TypeInfo := .node Tryz.t27 tt_43 tt_59
noncomputable def tt_11 : NT TypeInfo := .node Tryz.t11 tt_19 tt_27
noncomputable def tt_3 : NT TypeInfo := .node Tryz.t3 tt_7 tt_11
noncomputable def tt_65 : NT TypeInfo := .node Tryz.t65 (NT.node Tryz.t129 NT.nil NT.nil) (NT.node Tryz.t193 NT.nil NT.nil)
noncomputable def tt_97 : NT TypeInfo := .node Tryz.t97 (NT.node Tryz.t161 NT.nil NT.nil) (NT.node Tryz.t225 NT.nil NT.nil)
noncomputable def tt_33 : NT TypeInfo := .node Tryz.t33 tt_65 tt_97
noncomputable def tt_81 : NT TypeInfo := .node Tryz.t81 (NT.node Tryz.t145 NT.nil NT.nil) (NT.node Tryz.t209 NT.nil NT.nil)
noncomputable def tt_113 : NT TypeInfo := .node Tryz.t113 (NT.node Tryz.t177 NT.nil NT.nil) (NT.node Tryz.t241 NT.nil NT.nil)
noncomputable def tt_49 : NT TypeInfo := .node Tryz.t49 tt_81 tt_113
noncomputable def tt_17 : NT TypeInfo := .node Tryz.t17 tt_33 tt_49
noncomputable def tt_73 : NT TypeInfo := .node Tryz.t73 (NT.node Tryz.t137 NT.nil NT.nil) (NT.node Tryz.t201 NT.nil NT.nil)
noncomputable def tt_105 : NT TypeInfo := .node Tryz.t105 (NT.node Tryz.t169 NT.nil NT.nil) (NT.node Tryz.t233 NT.nil NT.nil)
noncomputable def tt_41 : NT TypeInfo := .node Tryz.t41 tt_73 tt_105
noncomputable def tt_89 : NT TypeInfo := .node Tryz.t89 (NT.node Tryz.t153 NT.nil NT.nil) (NT.node Tryz.t217 NT.nil NT.nil)
noncomputable def tt_121 : NT TypeInfo := .node Tryz.t121 (NT.node Tryz.t185 NT.nil NT.nil) (NT.node Tryz.t249 NT.nil NT.nil)
noncomputable def tt_57 : NT TypeInfo := .node Tryz.t57 tt_89 tt_121
noncomputable def tt_25 : NT TypeInfo := .node Tryz.t25 tt_41 tt_57
noncomputable def tt_9 : NT TypeInfo := .node Tryz.t9 tt_17 tt_25
noncomputable def tt_69 : NT TypeInfo := .node Tryz.t69 (NT.node Tryz.t133 NT.nil NT.nil) (NT.node Tryz.t197 NT.nil NT.nil)
noncomputable def tt_101 : NT TypeInfo := .node Tryz.t101 (NT.node Tryz.t165 NT.nil NT.nil) (NT.node Tryz.t229 NT.nil NT.nil)
noncomputable def tt_37 : NT TypeInfo := .node Tryz.t37 tt_69 tt_101
noncomputable def tt_85 : NT TypeInfo := .node Tryz.t85 (NT.node Tryz.t149 NT.nil NT.nil) (NT.node Tryz.t213 NT.nil NT.nil)
noncomputable def tt_117 : NT TypeInfo := .node Tryz.t117 (NT.node Tryz.t181 NT.nil NT.nil) (NT.node Tryz.t245 NT.nil NT.nil)
noncomputable def tt_53 : NT TypeInfo := .node Tryz.t53 tt_85 tt_117
noncomputable def tt_21 : NT TypeInfo := .node Tryz.t21 tt_37 tt_53
noncomputable def tt_77 : NT TypeInfo := .node Tryz.t77 (NT.node Tryz.t141 NT.nil NT.nil) (NT.node Tryz.t205 NT.nil NT.nil)
noncomputable def tt_109 : NT TypeInfo := .node Tryz.t109 (NT.node Tryz.t173 NT.nil NT.nil) (NT.node Tryz.t237 NT.nil NT.nil)
noncomputable def tt_45 : NT TypeInfo := .node Tryz.t45 tt_77 tt_109
noncomputable def tt_93 : NT TypeInfo := .node Tryz.t93 (NT.node Tryz.t157 NT.nil NT.nil) (NT.node Tryz.t221 NT.nil NT.nil)
noncomputable def tt_125 : NT TypeInfo := .node Tryz.t125 (NT.node Tryz.t189 NT.nil NT.nil) (NT.node Tryz.t253 NT.nil NT.nil)
noncomputable def tt_61 : NT TypeInfo := .node Tryz.t61 tt_93 tt_125
noncomputable def tt_29 : NT TypeInfo := .node Tryz.t29 tt_45 tt_61
noncomputable def tt_13 : NT TypeInfo := .node Tryz.t13 tt_21 tt_29
noncomputable def tt_5 : NT TypeInfo := .node Tryz.t5 tt_9 tt_13
noncomputable def tt_1 : NT TypeInfo := .node Tryz.t1 tt_3 tt_5
noncomputable def tt_64 : NT TypeInfo := .node Tryz.t64 (NT.node Tryz.t128 NT.nil NT.nil) (NT.node Tryz.t192 NT.nil NT.nil)
noncomputable def tt_96 : NT TypeInfo := .node Tryz.t96 (NT.node Tryz.t160 NT.nil NT.nil) (NT.node Tryz.t224 NT.nil NT.nil)
noncomputable def tt_32 : NT TypeInfo := .node Tryz.t32 tt_64 tt_96
noncomputable def tt_80 : NT TypeInfo := .node Tryz.t80 (NT.node Tryz.t144 NT.nil NT.nil) (NT.node Tryz.t208 NT.nil NT.nil)
noncomputable def tt_112 : NT TypeInfo := .node Tryz.t112 (NT.node Tryz.t176 NT.nil NT.nil) (NT.node Tryz.t240 NT.nil NT.nil)
noncomputable def tt_48 : NT TypeInfo := .node Tryz.t48 tt_80 tt_112
noncomputable def tt_16 : NT TypeInfo := .node Tryz.t16 tt_32 tt_48
noncomputable def tt_72 : NT TypeInfo := .node Tryz.t72 (NT.node Tryz.t136 NT.nil NT.nil) (NT.node Tryz.t200 NT.nil NT.nil)
noncomputable def tt_104 : NT TypeInfo := .node Tryz.t104 (NT.node Tryz.t168 NT.nil NT.nil) (NT.node Tryz.t232 NT.nil NT.nil)
noncomputable def tt_40 : NT TypeInfo := .node Tryz.t40 tt_72 tt_104
noncomputable def tt_88 : NT TypeInfo := .node Tryz.t88 (NT.node Tryz.t152 NT.nil NT.nil) (NT.node Tryz.t216 NT.nil NT.nil)
noncomputable def tt_120 : NT TypeInfo := .node Tryz.t120 (NT.node Tryz.t184 NT.nil NT.nil) (NT.node Tryz.t248 NT.nil NT.nil)
noncomputable def tt_56 : NT TypeInfo := .node Tryz.t56 tt_88 tt_120
noncomputable def tt_24 : NT TypeInfo := .node Tryz.t24 tt_40 tt_56
noncomputable def tt_8 : NT TypeInfo := .node Tryz.t8 tt_16 tt_24
noncomputable def tt_68 : NT TypeInfo := .node Tryz.t68 (NT.node Tryz.t132 NT.nil NT.nil) (NT.node Tryz.t196 NT.nil NT.nil)
noncomputable def tt_100 : NT TypeInfo := .node Tryz.t100 (NT.node Tryz.t164 NT.nil NT.nil) (NT.node Tryz.t228 NT.nil NT.nil)
noncomputable def tt_36 : NT TypeInfo := .node Tryz.t36 tt_68 tt_100
noncomputable def tt_84 : NT TypeInfo := .node Tryz.t84 (NT.node Tryz.t148 NT.nil NT.nil) (NT.node Tryz.t212 NT.nil NT.nil)
noncomputable def tt_116 : NT TypeInfo := .node Tryz.t116 (NT.node Tryz.t180 NT.nil NT.nil) (NT.node Tryz.t244 NT.nil NT.nil)
noncomputable def tt_52 : NT TypeInfo := .node Tryz.t52 tt_84 tt_116
noncomputable def tt_20 : NT TypeInfo := .node Tryz.t20 tt_36 tt_52
noncomputable def tt_76 : NT TypeInfo := .node Tryz.t76 (NT.node Tryz.t140 NT.nil NT.nil) (NT.node Tryz.t204 NT.nil NT.nil)
noncomputable def tt_108 : NT TypeInfo := .node Tryz.t108 (NT.node Tryz.t172 NT.nil NT.nil) (NT.node Tryz.t236 NT.nil NT.nil)
noncomputable def tt_44 : NT TypeInfo := .node Tryz.t44 tt_76 tt_108
noncomputable def tt_92 : NT TypeInfo := .node Tryz.t92 (NT.node Tryz.t156 NT.nil NT.nil) (NT.node Tryz.t220 NT.nil NT.nil)
noncomputable def tt_124 : NT TypeInfo := .node Tryz.t124 (NT.node Tryz.t188 NT.nil NT.nil) (NT.node Tryz.t252 NT.nil NT.nil)
noncomputable def tt_60 : NT TypeInfo := .node Tryz.t60 tt_92 tt_124
noncomputable def tt_28 : NT TypeInfo := .node Tryz.t28 tt_44 tt_60
noncomputable def tt_12 : NT TypeInfo := .node Tryz.t12 tt_20 tt_28
noncomputable def tt_4 : NT TypeInfo := .node Tryz.t4 tt_8 tt_12
noncomputable def tt_66 : NT TypeInfo := .node Tryz.t66 (NT.node Tryz.t130 NT.nil NT.nil) (NT.node Tryz.t194 NT.nil NT.nil)
noncomputable def tt_98 : NT TypeInfo := .node Tryz.t98 (NT.node Tryz.t162 NT.nil NT.nil) (NT.node Tryz.t226 NT.nil NT.nil)
noncomputable def tt_34 : NT TypeInfo := .node Tryz.t34 tt_66 tt_98
noncomputable def tt_82 : NT TypeInfo := .node Tryz.t82 (NT.node Tryz.t146 NT.nil NT.nil) (NT.node Tryz.t210 NT.nil NT.nil)
noncomputable def tt_114 : NT TypeInfo := .node Tryz.t114 (NT.node Tryz.t178 NT.nil NT.nil) (NT.node Tryz.t242 NT.nil NT.nil)
noncomputable def tt_50 : NT TypeInfo := .node Tryz.t50 tt_82 tt_114
noncomputable def tt_18 : NT TypeInfo := .node Tryz.t18 tt_34 tt_50
noncomputable def tt_74 : NT TypeInfo := .node Tryz.t74 (NT.node Tryz.t138 NT.nil NT.nil) (NT.node Tryz.t202 NT.nil NT.nil)
noncomputable def tt_106 : NT TypeInfo := .node Tryz.t106 (NT.node Tryz.t170 NT.nil NT.nil) (NT.node Tryz.t234 NT.nil NT.nil)
noncomputable def tt_42 : NT TypeInfo := .node Tryz.t42 tt_74 tt_106
noncomputable def tt_90 : NT TypeInfo := .node Tryz.t90 (NT.node Tryz.t154 NT.nil NT.nil) (NT.node Tryz.t218 NT.nil NT.nil)
noncomputable def tt_122 : NT TypeInfo := .node Tryz.t122 (NT.node Tryz.t186 NT.nil NT.nil) (NT.node Tryz.t250 NT.nil NT.nil)
noncomputable def tt_58 : NT TypeInfo := .node Tryz.t58 tt_90 tt_122
noncomputable def tt_26 : NT TypeInfo := .node Tryz.t26 tt_42 tt_58
noncomputable def tt_10 : NT TypeInfo := .node Tryz.t10 tt_18 tt_26
noncomputable def tt_70 : NT TypeInfo := .node Tryz.t70 (NT.node Tryz.t134 NT.nil NT.nil) (NT.node Tryz.t198 NT.nil NT.nil)
noncomputable def tt_102 : NT TypeInfo := .node Tryz.t102 (NT.node Tryz.t166 NT.nil NT.nil) (NT.node Tryz.t230 NT.nil NT.nil)
noncomputable def tt_38 : NT TypeInfo := .node Tryz.t38 tt_70 tt_102
noncomputable def tt_86 : NT TypeInfo := .node Tryz.t86 (NT.node Tryz.t150 NT.nil NT.nil) (NT.node Tryz.t214 NT.nil NT.nil)
noncomputable def tt_118 : NT TypeInfo := .node Tryz.t118 (NT.node Tryz.t182 NT.nil NT.nil) (NT.node Tryz.t246 NT.nil NT.nil)
noncomputable def tt_54 : NT TypeInfo := .node Tryz.t54 tt_86 tt_118
noncomputable def tt_22 : NT TypeInfo := .node Tryz.t22 tt_38 tt_54
noncomputable def tt_78 : NT TypeInfo := .node Tryz.t78 (NT.node Tryz.t142 NT.nil NT.nil) (NT.node Tryz.t206 NT.nil NT.nil)
noncomputable def tt_110 : NT TypeInfo := .node Tryz.t110 (NT.node Tryz.t174 NT.nil NT.nil) (NT.node Tryz.t238 NT.nil NT.nil)
noncomputable def tt_46 : NT TypeInfo := .node Tryz.t46 tt_78 tt_110
noncomputable def tt_94 : NT TypeInfo := .node Tryz.t94 (NT.node Tryz.t158 NT.nil NT.nil) (NT.node Tryz.t222 NT.nil NT.nil)
noncomputable def tt_126 : NT TypeInfo := .node Tryz.t126 (NT.node Tryz.t190 NT.nil NT.nil) (NT.node Tryz.t254 NT.nil NT.nil)
noncomputable def tt_62 : NT TypeInfo := .node Tryz.t62 tt_94 tt_126
noncomputable def tt_30 : NT TypeInfo := .node Tryz.t30 tt_46 tt_62
noncomputable def tt_14 : NT TypeInfo := .node Tryz.t14 tt_22 tt_30
noncomputable def tt_6 : NT TypeInfo := .node Tryz.t6 tt_10 tt_14
noncomputable def tt_2 : NT TypeInfo := .node Tryz.t2 tt_4 tt_6
noncomputable def tt_0 : NT TypeInfo := .node Tryz.t0 tt_1 tt_2
noncomputable def ft_127 : NT Func := .node Tryz.f127 (NT.node Tryz.f255 NT.nil NT.nil) NT.nil
noncomputable def ft_63 : NT Func := .node Tryz.f63 ft_127 (NT.node Tryz.f191 NT.nil NT.nil)
noncomputable def ft_95 : NT Func := .node Tryz.f95 (NT.node Tryz.f159 NT.nil NT.nil) (NT.node Tryz.f223 NT.nil NT.nil)
noncomputable def ft_31 : NT Func := .node Tryz.f31 ft_63 ft_95
noncomputable def ft_79 : NT Func := .node Tryz.f79 (NT.node Tryz.f143 NT.nil NT.nil) (NT.node Tryz.f207 NT.nil NT.nil)
noncomputable def ft_111 : NT Func := .node Tryz.f111 (NT.node Tryz.f175 NT.nil NT.nil) (NT.node Tryz.f239 NT.nil NT.nil)
noncomputable def ft_47 : NT Func := .node Tryz.f47 ft_79 ft_111
noncomputable def ft_15 : NT Func := .node Tryz.f15 ft_31 ft_47
noncomputable def ft_71 : NT Func := .node Tryz.f71 (NT.node Tryz.f135 NT.nil NT.nil) (NT.node Tryz.f199 NT.nil NT.nil)
noncomputable def ft_103 : NT Func := .node Tryz.f103 (NT.node Tryz.f167 NT.nil NT.nil) (NT.node Tryz.f231 NT.nil NT.nil)
noncomputable def ft_39 : NT Func := .node Tryz.f39 ft_71 ft_103
noncomputable def ft_87 : NT Func := .node Tryz.f87 (NT.node Tryz.f151 NT.nil NT.nil) (NT.node Tryz.f215 NT.nil NT.nil)
noncomputable def ft_119 : NT Func := .node Tryz.f119 (NT.node Tryz.f183 NT.nil NT.nil) (NT.node Tryz.f247 NT.nil NT.nil)
noncomputable def ft_55 : NT Func := .node Tryz.f55 ft_87 ft_119
noncomputable def ft_23 : NT Func := .node Tryz.f23 ft_39 ft_55
noncomputable def ft_7 : NT Func := .node Tryz.f7 ft_15 ft_23
noncomputable def ft_131 : NT Func := .node Tryz.f131 (NT.node Tryz.f259 NT.nil NT.nil) NT.nil
noncomputable def ft_67 : NT Func := .node Tryz.f67 ft_131 (NT.node Tryz.f195 NT.nil NT.nil)
noncomputable def ft_99 : NT Func := .node Tryz.f99 (NT.node Tryz.f163 NT.nil NT.nil) (NT.node Tryz.f227 NT.nil NT.nil)
noncomputable def ft_35 : NT Func := .node Tryz.f35 ft_67 ft_99
noncomputable def ft_83 : NT Func := .node Tryz.f83 (NT.node Tryz.f147 NT.nil NT.nil) (NT.node Tryz.f211 NT.nil NT.nil)
noncomputable def ft_115 : NT Func := .node Tryz.f115 (NT.node Tryz.f179 NT.nil NT.nil) (NT.node Tryz.f243 NT.nil NT.nil)
noncomputable def ft_51 : NT Func := .node Tryz.f51 ft_83 ft_115
noncomputable def ft_19 : NT Func := .node Tryz.f19 ft_35 ft_51
noncomputable def ft_75 : NT Func := .node Tryz.f75 (NT.node Tryz.f139 NT.nil NT.nil) (NT.node Tryz.f203 NT.nil NT.nil)
noncomputable def ft_107 : NT Func := .node Tryz.f107 (NT.node Tryz.f171 NT.nil NT.nil) (NT.node Tryz.f235 NT.nil NT.nil)
noncomputable def ft_43 : NT Func := .node Tryz.f43 ft_75 ft_107
noncomputable def ft_91 : NT Func := .node Tryz.f91 (NT.node Tryz.f155 NT.nil NT.nil) (NT.node Tryz.f219 NT.nil NT.nil)
noncomputable def ft_123 : NT Func := .node Tryz.f123 (NT.node Tryz.f187 NT.nil NT.nil) (NT.node Tryz.f251 NT.nil NT.nil)
noncomputable def ft_59 : NT Func := .node Tryz.f59 ft_91 ft_123
noncomputable def ft_27 : NT Func := .node Tryz.f27 ft_43 ft_59
noncomputable def ft_11 : NT Func := .node Tryz.f11 ft_19 ft_27
noncomputable def ft_3 : NT Func := .node Tryz.f3 ft_7 ft_11
noncomputable def ft_129 : NT Func := .node Tryz.f129 (NT.node Tryz.f257 NT.nil NT.nil) NT.nil
noncomputable def ft_65 : NT Func := .node Tryz.f65 ft_129 (NT.node Tryz.f193 NT.nil NT.nil)
noncomputable def ft_97 : NT Func := .node Tryz.f97 (NT.node Tryz.f161 NT.nil NT.nil) (NT.node Tryz.f225 NT.nil NT.nil)
noncomputable def ft_33 : NT Func := .node Tryz.f33 ft_65 ft_97
noncomputable def ft_81 : NT Func := .node Tryz.f81 (NT.node Tryz.f145 NT.nil NT.nil) (NT.node Tryz.f209 NT.nil NT.nil)
noncomputable def ft_113 : NT Func := .node Tryz.f113 (NT.node Tryz.f177 NT.nil NT.nil) (NT.node Tryz.f241 NT.nil NT.nil)
noncomputable def ft_49 : NT Func := .node Tryz.f49 ft_81 ft_113
noncomputable def ft_17 : NT Func := .node Tryz.f17 ft_33 ft_49
noncomputable def ft_73 : NT Func := .node Tryz.f73 (NT.node Tryz.f137 NT.nil NT.nil) (NT.node Tryz.f201 NT.nil NT.nil)
noncomputable def ft_105 : NT Func := .node Tryz.f105 (NT.node Tryz.f169 NT.nil NT.nil) (NT.node Tryz.f233 NT.nil NT.nil)
noncomputable def ft_41 : NT Func := .node Tryz.f41 ft_73 ft_105
noncomputable def ft_89 : NT Func := .node Tryz.f89 (NT.node Tryz.f153 NT.nil NT.nil) (NT.node Tryz.f217 NT.nil NT.nil)
noncomputable def ft_121 : NT Func := .node Tryz.f121 (NT.node Tryz.f185 NT.nil NT.nil) (NT.node Tryz.f249 NT.nil NT.nil)
noncomputable def ft_57 : NT Func := .node Tryz.f57 ft_89 ft_121
noncomputable def ft_25 : NT Func := .node Tryz.f25 ft_41 ft_57
noncomputable def ft_9 : NT Func := .node Tryz.f9 ft_17 ft_25
noncomputable def ft_69 : NT Func := .node Tryz.f69 (NT.node Tryz.f133 NT.nil NT.nil) (NT.node Tryz.f197 NT.nil NT.nil)
noncomputable def ft_101 : NT Func := .node Tryz.f101 (NT.node Tryz.f165 NT.nil NT.nil) (NT.node Tryz.f229 NT.nil NT.nil)
noncomputable def ft_37 : NT Func := .node Tryz.f37 ft_69 ft_101
noncomputable def ft_85 : NT Func := .node Tryz.f85 (NT.node Tryz.f149 NT.nil NT.nil) (NT.node Tryz.f213 NT.nil NT.nil)
noncomputable def ft_117 : NT Func := .node Tryz.f117 (NT.node Tryz.f181 NT.nil NT.nil) (NT.node Tryz.f245 NT.nil NT.nil)
noncomputable def ft_53 : NT Func := .node Tryz.f53 ft_85 ft_117
noncomputable def ft_21 : NT Func := .node Tryz.f21 ft_37 ft_53
noncomputable def ft_77 : NT Func := .node Tryz.f77 (NT.node Tryz.f141 NT.nil NT.nil) (NT.node Tryz.f205 NT.nil NT.nil)
noncomputable def ft_109 : NT Func := .node Tryz.f109 (NT.node Tryz.f173 NT.nil NT.nil) (NT.node Tryz.f237 NT.nil NT.nil)
noncomputable def ft_45 : NT Func := .node Tryz.f45 ft_77 ft_109
noncomputable def ft_93 : NT Func := .node Tryz.f93 (NT.node Tryz.f157 NT.nil NT.nil) (NT.node Tryz.f221 NT.nil NT.nil)
noncomputable def ft_125 : NT Func := .node Tryz.f125 (NT.node Tryz.f189 NT.nil NT.nil) (NT.node Tryz.f253 NT.nil NT.nil)
noncomputable def ft_61 : NT Func := .node Tryz.f61 ft_93 ft_125
noncomputable def ft_29 : NT Func := .node Tryz.f29 ft_45 ft_61
noncomputable def ft_13 : NT Func := .node Tryz.f13 ft_21 ft_29
noncomputable def ft_5 : NT Func := .node Tryz.f5 ft_9 ft_13
noncomputable def ft_1 : NT Func := .node Tryz.f1 ft_3 ft_5
noncomputable def ft_128 : NT Func := .node Tryz.f128 (NT.node Tryz.f256 NT.nil NT.nil) NT.nil
noncomputable def ft_64 : NT Func := .node Tryz.f64 ft_128 (NT.node Tryz.f192 NT.nil NT.nil)
noncomputable def ft_96 : NT Func := .node Tryz.f96 (NT.node Tryz.f160 NT.nil NT.nil) (NT.node Tryz.f224 NT.nil NT.nil)
noncomputable def ft_32 : NT Func := .node Tryz.f32 ft_64 ft_96
noncomputable def ft_80 : NT Func := .node Tryz.f80 (NT.node Tryz.f144 NT.nil NT.nil) (NT.node Tryz.f208 NT.nil NT.nil)
noncomputable def ft_112 : NT Func := .node Tryz.f112 (NT.node Tryz.f176 NT.nil NT.nil) (NT.node Tryz.f240 NT.nil NT.nil)
noncomputable def ft_48 : NT Func := .node Tryz.f48 ft_80 ft_112
noncomputable def ft_16 : NT Func := .node Tryz.f16 ft_32 ft_48
noncomputable def ft_72 : NT Func := .node Tryz.f72 (NT.node Tryz.f136 NT.nil NT.nil) (NT.node Tryz.f200 NT.nil NT.nil)
noncomputable def ft_104 : NT Func := .node Tryz.f104 (NT.node Tryz.f168 NT.nil NT.nil) (NT.node Tryz.f232 NT.nil NT.nil)
noncomputable def ft_40 : NT Func := .node Tryz.f40 ft_72 ft_104
noncomputable def ft_88 : NT Func := .node Tryz.f88 (NT.node Tryz.f152 NT.nil NT.nil) (NT.node Tryz.f216 NT.nil NT.nil)
noncomputable def ft_120 : NT Func := .node Tryz.f120 (NT.node Tryz.f184 NT.nil NT.nil) (NT.node Tryz.f248 NT.nil NT.nil)
noncomputable def ft_56 : NT Func := .node Tryz.f56 ft_88 ft_120
noncomputable def ft_24 : NT Func := .node Tryz.f24 ft_40 ft_56
noncomputable def ft_8 : NT Func := .node Tryz.f8 ft_16 ft_24
noncomputable def ft_68 : NT Func := .node Tryz.f68 (NT.node Tryz.f132 NT.nil NT.nil) (NT.node Tryz.f196 NT.nil NT.nil)
noncomputable def ft_100 : NT Func := .node Tryz.f100 (NT.node Tryz.f164 NT.nil NT.nil) (NT.node Tryz.f228 NT.nil NT.nil)
noncomputable def ft_36 : NT Func := .node Tryz.f36 ft_68 ft_100
noncomputable def ft_84 : NT Func := .node Tryz.f84 (NT.node Tryz.f148 NT.nil NT.nil) (NT.node Tryz.f212 NT.nil NT.nil)
noncomputable def ft_116 : NT Func := .node Tryz.f116 (NT.node Tryz.f180 NT.nil NT.nil) (NT.node Tryz.f244 NT.nil NT.nil)
noncomputable def ft_52 : NT Func := .node Tryz.f52 ft_84 ft_116
noncomputable def ft_20 : NT Func := .node Tryz.f20 ft_36 ft_52
noncomputable def ft_76 : NT Func := .node Tryz.f76 (NT.node Tryz.f140 NT.nil NT.nil) (NT.node Tryz.f204 NT.nil NT.nil)
noncomputable def ft_108 : NT Func := .node Tryz.f108 (NT.node Tryz.f172 NT.nil NT.nil) (NT.node Tryz.f236 NT.nil NT.nil)
noncomputable def ft_44 : NT Func := .node Tryz.f44 ft_76 ft_108
noncomputable def ft_92 : NT Func := .node Tryz.f92 (NT.node Tryz.f156 NT.nil NT.nil) (NT.node Tryz.f220 NT.nil NT.nil)
noncomputable def ft_124 : NT Func := .node Tryz.f124 (NT.node Tryz.f188 NT.nil NT.nil) (NT.node Tryz.f252 NT.nil NT.nil)
noncomputable def ft_60 : NT Func := .node Tryz.f60 ft_92 ft_124
noncomputable def ft_28 : NT Func := .node Tryz.f28 ft_44 ft_60
noncomputable def ft_12 : NT Func := .node Tryz.f12 ft_20 ft_28
noncomputable def ft_4 : NT Func := .node Tryz.f4 ft_8 ft_12
noncomputable def ft_130 : NT Func := .node Tryz.f130 (NT.node Tryz.f258 NT.nil NT.nil) NT.nil
noncomputable def ft_66 : NT Func := .node Tryz.f66 ft_130 (NT.node Tryz.f194 NT.nil NT.nil)
noncomputable def ft_98 : NT Func := .node Tryz.f98 (NT.node Tryz.f162 NT.nil NT.nil) (NT.node Tryz.f226 NT.nil NT.nil)
noncomputable def ft_34 : NT Func := .node Tryz.f34 ft_66 ft_98
noncomputable def ft_82 : NT Func := .node Tryz.f82 (NT.node Tryz.f146 NT.nil NT.nil) (NT.node Tryz.f210 NT.nil NT.nil)
noncomputable def ft_114 : NT Func := .node Tryz.f114 (NT.node Tryz.f178 NT.nil NT.nil) (NT.node Tryz.f242 NT.nil NT.nil)
noncomputable def ft_50 : NT Func := .node Tryz.f50 ft_82 ft_114
noncomputable def ft_18 : NT Func := .node Tryz.f18 ft_34 ft_50
noncomputable def ft_74 : NT Func := .node Tryz.f74 (NT.node Tryz.f138 NT.nil NT.nil) (NT.node Tryz.f202 NT.nil NT.nil)
noncomputable def ft_106 : NT Func := .node Tryz.f106 (NT.node Tryz.f170 NT.nil NT.nil) (NT.node Tryz.f234 NT.nil NT.nil)
noncomputable def ft_42 : NT Func := .node Tryz.f42 ft_74 ft_106
noncomputable def ft_90 : NT Func := .node Tryz.f90 (NT.node Tryz.f154 NT.nil NT.nil) (NT.node Tryz.f218 NT.nil NT.nil)
noncomputable def ft_122 : NT Func := .node Tryz.f122 (NT.node Tryz.f186 NT.nil NT.nil) (NT.node Tryz.f250 NT.nil NT.nil)
noncomputable def ft_58 : NT Func := .node Tryz.f58 ft_90 ft_122
noncomputable def ft_26 : NT Func := .node Tryz.f26 ft_42 ft_58
noncomputable def ft_10 : NT Func := .node Tryz.f10 ft_18 ft_26
noncomputable def ft_70 : NT Func := .node Tryz.f70 (NT.node Tryz.f134 NT.nil NT.nil) (NT.node Tryz.f198 NT.nil NT.nil)
noncomputable def ft_102 : NT Func := .node Tryz.f102 (NT.node Tryz.f166 NT.nil NT.nil) (NT.node Tryz.f230 NT.nil NT.nil)
noncomputable def ft_38 : NT Func := .node Tryz.f38 ft_70 ft_102
noncomputable def ft_86 : NT Func := .node Tryz.f86 (NT.node Tryz.f150 NT.nil NT.nil) (NT.node Tryz.f214 NT.nil NT.nil)
noncomputable def ft_118 : NT Func := .node Tryz.f118 (NT.node Tryz.f182 NT.nil NT.nil) (NT.node Tryz.f246 NT.nil NT.nil)
noncomputable def ft_54 : NT Func := .node Tryz.f54 ft_86 ft_118
noncomputable def ft_22 : NT Func := .node Tryz.f22 ft_38 ft_54
noncomputable def ft_78 : NT Func := .node Tryz.f78 (NT.node Tryz.f142 NT.nil NT.nil) (NT.node Tryz.f206 NT.nil NT.nil)
noncomputable def ft_110 : NT Func := .node Tryz.f110 (NT.node Tryz.f174 NT.nil NT.nil) (NT.node Tryz.f238 NT.nil NT.nil)
noncomputable def ft_46 : NT Func := .node Tryz.f46 ft_78 ft_110
noncomputable def ft_94 : NT Func := .node Tryz.f94 (NT.node Tryz.f158 NT.nil NT.nil) (NT.node Tryz.f222 NT.nil NT.nil)
noncomputable def ft_126 : NT Func := .node Tryz.f126 (NT.node Tryz.f190 NT.nil NT.nil) (NT.node Tryz.f254 NT.nil NT.nil)
noncomputable def ft_62 : NT Func := .node Tryz.f62 ft_94 ft_126
noncomputable def ft_30 : NT Func := .node Tryz.f30 ft_46 ft_62
noncomputable def ft_14 : NT Func := .node Tryz.f14 ft_22 ft_30
noncomputable def ft_6 : NT Func := .node Tryz.f6 ft_10 ft_14
noncomputable def ft_2 : NT Func := .node Tryz.f2 ft_4 ft_6
noncomputable def ft_0 : NT Func := .node Tryz.f0 ft_1 ft_2
theorem tt_all : (List.range 256).map tt_0.get = Tryz.prog.types.toList.map some := by kernel_rfl
theorem ft_all : (List.range 260).map ft_0.get = Tryz.prog.funcs.toList.map some := by kernel_rfl
theorem tz_all : Tryz.prog.types.toList.all zeroOk = true := by kernel_rfl
theorem fn_all : Tryz.prog.funcs.toList.all (fun x => !(x.name == "runtime.NumGoroutine")) = true := by kernel_rfl
noncomputable def ttAt : Nat → Option TypeInfo := tt_0.at 256
noncomputable def ftAt : Nat → Option Func := ft_0.at 260
theorem tt_ok (t : Nat) (i : TypeInfo) (h : ttAt t = some i) : Tryz.prog.types[t]? = some i := by have := NT.at_of tt_all h; simpa using this
theorem ft_ok (t : Nat) (i : Func) (h : ftAt t = some i) : Tryz.prog.funcs[t]? = some i := by have := NT.at_of ft_all h; simpa using this
end Go.Proofs.Abs

/- The seat's table for the abstract machine. -/
namespace Go.Proofs.Abs
open Go
set_option maxRecDepth 100000

noncomputable section
def k33 : List LK := [.int .i64, .int .i64, .str, .int .i64]
def eqk0 (t : TypeId) : Option (List LK) := bif Nat.beq t 33 then some k33 else none
def T0 : Tab := tabT 5 ttAt ftAt eqk0
end

theorem part_cell {P : Program} {w : World} {t : TypeId} {d : TypeDesc} (hd : P.underlying t = some d) (ha : isAggT d = false) {xs : Array Value} {o : Nat} {v : Value} (h : xs[o]? = some v) : (part t xs o).run P w = .ok v w := by
  unfold part
  simp only [Sem.run_bind, run_isAgg hd, ha, Result.andThen_ok, Bool.false_eq_true, if_false, h]
  rfl

theorem eqIn_int {P : Program} {w : World} {t : TypeId} {k : IntKind} (hd : P.underlying t = some (.int k)) (n : Nat) (k' : IntKind) (a b : Int) : (Op.equalIn (n + 1) t (.int k' a) (.int k' b)).run P w = .ok (a == b) w := by
  simp [Op.equalIn, run_und hd]
theorem eqIn_str {P : Program} {w : World} {t : TypeId} (hd : P.underlying t = some .string) (n : Nat) (a b : ByteArray) : (Op.equalIn (n + 1) t (.string a) (.string b)).run P w = .ok (a == b) w := by
  simp [Op.equalIn, run_und hd]

theorem hasAll_cons {k : LK} {ks : List LK} {l : List Value} (h : hasAll (k :: ks) l = true) : ∃ v vs, l = v :: vs ∧ k.has v = true ∧ hasAll ks vs = true := by
  cases l with
  | nil => cases h
  | cons v vs => simp only [hasAll, Bool.and_eq_true] at h; exact ⟨v, vs, rfl, h.1, h.2⟩
theorem hasAll_nil {l : List Value} (h : hasAll [] l = true) : l = [] := by
  cases l with
  | nil => rfl
  | cons v vs => cases h
theorem has_int {k : IntKind} {v : Value} (h : (LK.int k).has v = true) : ∃ n, v = .int k n := by
  cases v <;> simp [LK.has] at h
  subst h; exact ⟨_, rfl⟩
theorem has_str {v : Value} (h : LK.str.has v = true) : ∃ n, v = .string n := by
  cases v <;> simp [LK.has] at h
  exact ⟨_, rfl⟩

theorem eq33 (w : World) (xs ys : Array Value) (hx : hasAll k33 xs.toList = true) (hy : hasAll k33 ys.toList = true) : (Op.equal 33 (.agg xs) (.agg ys)).run Tryz.prog w = .ok (eqCells xs.toList ys.toList) w := by
  have form : ∀ zs : Array Value, hasAll k33 zs.toList = true → ∃ a b c d, zs = #[.int .i64 a, .int .i64 b, .string c, .int .i64 d] := by
    intro zs hz
    obtain ⟨l⟩ := zs
    obtain ⟨a, l, rfl, h1, hz⟩ := hasAll_cons hz
    obtain ⟨b, l, rfl, h2, hz⟩ := hasAll_cons hz
    obtain ⟨c, l, rfl, h3, hz⟩ := hasAll_cons hz
    obtain ⟨d, l, rfl, h4, hz⟩ := hasAll_cons hz
    obtain rfl := hasAll_nil hz
    obtain ⟨a, rfl⟩ := has_int h1
    obtain ⟨b, rfl⟩ := has_int h2
    obtain ⟨c, rfl⟩ := has_str h3
    obtain ⟨d, rfl⟩ := has_int h4
    exact ⟨a, b, c, d, rfl⟩
  obtain ⟨a, b, c, d, rfl⟩ := form xs hx
  obtain ⟨a', b', c', d', rfl⟩ := form ys hy
  have u3 : Tryz.prog.underlying 3 = some (.int .i64) := by kernel_rfl
  have u2 : Tryz.prog.underlying 2 = some (.int .i64) := by kernel_rfl
  have u9 : Tryz.prog.underlying 9 = some .string := by kernel_rfl
  have hS : Tryz.prog.underlying 33 = some (.struct (Tryz.prog.fieldsOf 33)) := by kernel_rfl
  have hF : (Tryz.prog.fieldsOf 33).toList.map (fun f => (f.name, f.type, f.offset)) = [("Sort", 3, 0), ("N", 2, 1), ("S", 9, 2), ("Ref", 3, 3)] := by kernel_rfl
  have hp : Tryz.prog.stoodInHeld 33 = false := by kernel_rfl
  show (Op.equalIn 10000 33 _ _).run _ w = _
  rw [show (10000 : Nat) = 9998 + 1 + 1 from rfl, run_equalIn_struct w (9998 + 1) 33 _ _ hS hp]
  generalize (Tryz.prog.fieldsOf 33).toList = fs at hF
  rcases fs with _ | ⟨f1, _ | ⟨f2, _ | ⟨f3, _ | ⟨f4, _ | ⟨f5, fs⟩⟩⟩⟩⟩
  · simp at hF
  · simp at hF
  · simp at hF
  · simp at hF
  · skip
    simp only [List.map_cons, List.map_nil, List.cons.injEq, Prod.mk.injEq, and_true] at hF
    obtain ⟨⟨n1, t1, o1⟩, ⟨n2, t2, o2⟩, ⟨n3, t3, o3⟩, ⟨n4, t4, o4⟩⟩ := hF
    have p1 : ∀ (e1 e2 e3 e4 : Value), (part f1.type #[e1, e2, e3, e4] f1.offset).run Tryz.prog w = .ok e1 w := fun _ _ _ _ => by rw [t1, o1]; exact part_cell u3 rfl rfl
    have p2 : ∀ (e1 e2 e3 e4 : Value), (part f2.type #[e1, e2, e3, e4] f2.offset).run Tryz.prog w = .ok e2 w := fun _ _ _ _ => by rw [t2, o2]; exact part_cell u2 rfl rfl
    have p3 : ∀ (e1 e2 e3 e4 : Value), (part f3.type #[e1, e2, e3, e4] f3.offset).run Tryz.prog w = .ok e3 w := fun _ _ _ _ => by rw [t3, o3]; exact part_cell u9 rfl rfl
    have p4 : ∀ (e1 e2 e3 e4 : Value), (part f4.type #[e1, e2, e3, e4] f4.offset).run Tryz.prog w = .ok e4 w := fun _ _ _ _ => by rw [t4, o4]; exact part_cell u3 rfl rfl
    have q1 : ∀ a b : Int, (Op.equalIn (9998 + 1) f1.type (.int .i64 a) (.int .i64 b)).run Tryz.prog w = .ok (a == b) w := fun a b => by rw [t1]; exact eqIn_int u3 _ _ _ _
    have q2 : ∀ a b : Int, (Op.equalIn (9998 + 1) f2.type (.int .i64 a) (.int .i64 b)).run Tryz.prog w = .ok (a == b) w := fun a b => by rw [t2]; exact eqIn_int u2 _ _ _ _
    have q3 : ∀ a b : ByteArray, (Op.equalIn (9998 + 1) f3.type (.string a) (.string b)).run Tryz.prog w = .ok (a == b) w := fun a b => by rw [t3]; exact eqIn_str u9 _ _ _
    have q4 : ∀ a b : Int, (Op.equalIn (9998 + 1) f4.type (.int .i64 a) (.int .i64 b)).run Tryz.prog w = .ok (a == b) w := fun a b => by rw [t4]; exact eqIn_int u3 _ _ _ _
    have e1 : f1.name ≠ "_" := by rw [n1]; decide
    have e2 : f2.name ≠ "_" := by rw [n2]; decide
    have e3 : f3.name ≠ "_" := by rw [n3]; decide
    have e4 : f4.name ≠ "_" := by rw [n4]; decide
    have hne : ∀ {r : Bool} {m : Sem Bool}, (if (!r) = true then pure false else m : Sem Bool).run Tryz.prog w = if r then m.run Tryz.prog w else .ok false w := by
      intro r m; cases r <;> rfl
    simp only [Op.eqFields, if_pos e1, if_pos e2, if_pos e3, if_pos e4, Sem.run_bind, p1, p2, p3, p4, Result.andThen_ok, q1, q2, q3, q4, hne]
    simp only [eqCells, eqLeaf, Sem.run_pure]
    cases (a == a') <;> cases (b == b') <;> cases (c == c') <;> cases (d == d') <;> rfl
  · simp at hF

theorem T0_ok : T0.Ok Tryz.prog := by
  refine tabT_ok (by kernel_rfl) (Nat.le_of_ble_eq_true (by kernel_rfl)) tt_ok tz_all ft_ok fn_all ?_
  intro t ks h
  unfold eqk0 at h
  cases hb : Nat.beq t 33 with
  | false => rw [hb] at h; cases h
  | true =>
    rw [hb] at h
    cases h
    have := Nat.eq_of_beq_eq_true hb
    subst this
    exact ⟨by kernel_rfl, fun w xs ys hx hy => eq33 w xs ys hx hy⟩

end Go.Proofs.Abs

/- The seat's functions, found in its table. MADE BY PROGRAM. -/
namespace Go.Proofs.Abs
open Go
set_option maxRecDepth 100000
theorem fn12 : T0.fn 12 = some Tryz.f12 := by kernel_rfl
theorem fn13 : T0.fn 13 = some Tryz.f13 := by kernel_rfl
theorem fn14 : T0.fn 14 = some Tryz.f14 := by kernel_rfl
theorem fn15 : T0.fn 15 = some Tryz.f15 := by kernel_rfl
theorem fn16 : T0.fn 16 = some Tryz.f16 := by kernel_rfl
theorem fn17 : T0.fn 17 = some Tryz.f17 := by kernel_rfl
theorem fn18 : T0.fn 18 = some Tryz.f18 := by kernel_rfl
theorem fn19 : T0.fn 19 = some Tryz.f19 := by kernel_rfl
theorem fn20 : T0.fn 20 = some Tryz.f20 := by kernel_rfl
theorem fn21 : T0.fn 21 = some Tryz.f21 := by kernel_rfl
theorem fn22 : T0.fn 22 = some Tryz.f22 := by kernel_rfl
theorem fn23 : T0.fn 23 = some Tryz.f23 := by kernel_rfl
theorem fn24 : T0.fn 24 = some Tryz.f24 := by kernel_rfl
theorem fn25 : T0.fn 25 = some Tryz.f25 := by kernel_rfl
theorem fn26 : T0.fn 26 = some Tryz.f26 := by kernel_rfl
theorem fn27 : T0.fn 27 = some Tryz.f27 := by kernel_rfl
theorem fn28 : T0.fn 28 = some Tryz.f28 := by kernel_rfl
theorem fn29 : T0.fn 29 = some Tryz.f29 := by kernel_rfl
theorem fn30 : T0.fn 30 = some Tryz.f30 := by kernel_rfl
theorem fn31 : T0.fn 31 = some Tryz.f31 := by kernel_rfl
theorem fn32 : T0.fn 32 = some Tryz.f32 := by kernel_rfl
theorem fn33 : T0.fn 33 = some Tryz.f33 := by kernel_rfl
theorem fn34 : T0.fn 34 = some Tryz.f34 := by kernel_rfl
theorem fn35 : T0.fn 35 = some Tryz.f35 := by kernel_rfl
theorem fn36 : T0.fn 36 = some Tryz.f36 := by kernel_rfl
theorem fn37 : T0.fn 37 = some Tryz.f37 := by kernel_rfl
theorem fn38 : T0.fn 38 = some Tryz.f38 := by kernel_rfl
theorem fn39 : T0.fn 39 = some Tryz.f39 := by kernel_rfl
theorem fn40 : T0.fn 40 = some Tryz.f40 := by kernel_rfl
theorem fn41 : T0.fn 41 = some Tryz.f41 := by kernel_rfl
theorem fn42 : T0.fn 42 = some Tryz.f42 := by kernel_rfl
theorem fn43 : T0.fn 43 = some Tryz.f43 := by kernel_rfl
theorem fn44 : T0.fn 44 = some Tryz.f44 := by kernel_rfl
theorem fn45 : T0.fn 45 = some Tryz.f45 := by kernel_rfl
theorem fn46 : T0.fn 46 = some Tryz.f46 := by kernel_rfl
theorem fn47 : T0.fn 47 = some Tryz.f47 := by kernel_rfl
theorem fn48 : T0.fn 48 = some Tryz.f48 := by kernel_rfl
theorem fn49 : T0.fn 49 = some Tryz.f49 := by kernel_rfl
theorem fn50 : T0.fn 50 = some Tryz.f50 := by kernel_rfl
theorem fn51 : T0.fn 51 = some Tryz.f51 := by kernel_rfl
theorem fn52 : T0.fn 52 = some Tryz.f52 := by kernel_rfl
theorem fn53 : T0.fn 53 = some Tryz.f53 := by kernel_rfl
theorem fn54 : T0.fn 54 = some Tryz.f54 := by kernel_rfl
theorem fn55 : T0.fn 55 = some Tryz.f55 := by kernel_rfl
theorem fn56 : T0.fn 56 = some Tryz.f56 := by kernel_rfl
theorem fn57 : T0.fn 57 = some Tryz.f57 := by kernel_rfl
theorem fn58 : T0.fn 58 = some Tryz.f58 := by kernel_rfl
theorem fn59 : T0.fn 59 = some Tryz.f59 := by kernel_rfl
theorem fn60 : T0.fn 60 = some Tryz.f60 := by kernel_rfl
theorem fn61 : T0.fn 61 = some Tryz.f61 := by kernel_rfl
theorem fn62 : T0.fn 62 = some Tryz.f62 := by kernel_rfl
theorem fn63 : T0.fn 63 = some Tryz.f63 := by kernel_rfl
theorem fn64 : T0.fn 64 = some Tryz.f64 := by kernel_rfl
theorem fn65 : T0.fn 65 = some Tryz.f65 := by kernel_rfl
theorem fn66 : T0.fn 66 = some Tryz.f66 := by kernel_rfl
theorem fn67 : T0.fn 67 = some Tryz.f67 := by kernel_rfl
theorem fn68 : T0.fn 68 = some Tryz.f68 := by kernel_rfl
theorem fn69 : T0.fn 69 = some Tryz.f69 := by kernel_rfl
theorem fn70 : T0.fn 70 = some Tryz.f70 := by kernel_rfl
theorem fn71 : T0.fn 71 = some Tryz.f71 := by kernel_rfl
theorem fn72 : T0.fn 72 = some Tryz.f72 := by kernel_rfl
theorem fn73 : T0.fn 73 = some Tryz.f73 := by kernel_rfl
theorem fn74 : T0.fn 74 = some Tryz.f74 := by kernel_rfl
theorem fn75 : T0.fn 75 = some Tryz.f75 := by kernel_rfl
theorem fn76 : T0.fn 76 = some Tryz.f76 := by kernel_rfl
theorem fn77 : T0.fn 77 = some Tryz.f77 := by kernel_rfl
theorem fn78 : T0.fn 78 = some Tryz.f78 := by kernel_rfl
theorem fn79 : T0.fn 79 = some Tryz.f79 := by kernel_rfl
theorem fn80 : T0.fn 80 = some Tryz.f80 := by kernel_rfl
theorem fn81 : T0.fn 81 = some Tryz.f81 := by kernel_rfl
theorem fn82 : T0.fn 82 = some Tryz.f82 := by kernel_rfl
theorem fn83 : T0.fn 83 = some Tryz.f83 := by kernel_rfl
theorem fn84 : T0.fn 84 = some Tryz.f84 := by kernel_rfl
theorem fn85 : T0.fn 85 = some Tryz.f85 := by kernel_rfl
theorem fn86 : T0.fn 86 = some Tryz.f86 := by kernel_rfl
theorem fn87 : T0.fn 87 = some Tryz.f87 := by kernel_rfl
theorem fn88 : T0.fn 88 = some Tryz.f88 := by kernel_rfl
theorem fn89 : T0.fn 89 = some Tryz.f89 := by kernel_rfl
theorem fn90 : T0.fn 90 = some Tryz.f90 := by kernel_rfl
theorem fn91 : T0.fn 91 = some Tryz.f91 := by kernel_rfl
theorem fn92 : T0.fn 92 = some Tryz.f92 := by kernel_rfl
theorem fn93 : T0.fn 93 = some Tryz.f93 := by kernel_rfl
theorem fn94 : T0.fn 94 = some Tryz.f94 := by kernel_rfl
theorem fn95 : T0.fn 95 = some Tryz.f95 := by kernel_rfl
theorem fn96 : T0.fn 96 = some Tryz.f96 := by kernel_rfl
theorem fn97 : T0.fn 97 = some Tryz.f97 := by kernel_rfl
theorem fn98 : T0.fn 98 = some Tryz.f98 := by kernel_rfl
theorem fn99 : T0.fn 99 = some Tryz.f99 := by kernel_rfl
theorem fn100 : T0.fn 100 = some Tryz.f100 := by kernel_rfl
theorem fn101 : T0.fn 101 = some Tryz.f101 := by kernel_rfl
theorem fn102 : T0.fn 102 = some Tryz.f102 := by kernel_rfl
theorem fn103 : T0.fn 103 = some Tryz.f103 := by kernel_rfl
theorem fn104 : T0.fn 104 = some Tryz.f104 := by kernel_rfl
theorem fn105 : T0.fn 105 = some Tryz.f105 := by kernel_rfl
theorem fn106 : T0.fn 106 = some Tryz.f106 := by kernel_rfl
theorem fn107 : T0.fn 107 = some Tryz.f107 := by kernel_rfl
theorem fn108 : T0.fn 108 = some Tryz.f108 := by kernel_rfl
theorem fn109 : T0.fn 109 = some Tryz.f109 := by kernel_rfl
theorem fn110 : T0.fn 110 = some Tryz.f110 := by kernel_rfl
theorem fn111 : T0.fn 111 = some Tryz.f111 := by kernel_rfl
theorem fn112 : T0.fn 112 = some Tryz.f112 := by kernel_rfl
theorem fn113 : T0.fn 113 = some Tryz.f113 := by kernel_rfl
theorem fn114 : T0.fn 114 = some Tryz.f114 := by kernel_rfl
theorem fn115 : T0.fn 115 = some Tryz.f115 := by kernel_rfl
theorem fn116 : T0.fn 116 = some Tryz.f116 := by kernel_rfl
theorem fn117 : T0.fn 117 = some Tryz.f117 := by kernel_rfl
theorem fn118 : T0.fn 118 = some Tryz.f118 := by kernel_rfl
theorem fn119 : T0.fn 119 = some Tryz.f119 := by kernel_rfl
theorem fn120 : T0.fn 120 = some Tryz.f120 := by kernel_rfl
theorem fn121 : T0.fn 121 = some Tryz.f121 := by kernel_rfl
theorem fn122 : T0.fn 122 = some Tryz.f122 := by kernel_rfl
theorem fn123 : T0.fn 123 = some Tryz.f123 := by kernel_rfl
theorem fn124 : T0.fn 124 = some Tryz.f124 := by kernel_rfl
theorem fn125 : T0.fn 125 = some Tryz.f125 := by kernel_rfl
theorem fn126 : T0.fn 126 = some Tryz.f126 := by kernel_rfl
theorem fn127 : T0.fn 127 = some Tryz.f127 := by kernel_rfl
theorem fn128 : T0.fn 128 = some Tryz.f128 := by kernel_rfl
theorem fn129 : T0.fn 129 = some Tryz.f129 := by kernel_rfl
theorem fn130 : T0.fn 130 = some Tryz.f130 := by kernel_rfl
theorem fn131 : T0.fn 131 = some Tryz.f131 := by kernel_rfl
theorem fn132 : T0.fn 132 = some Tryz.f132 := by kernel_rfl
theorem fn133 : T0.fn 133 = some Tryz.f133 := by kernel_rfl
theorem fn134 : T0.fn 134 = some Tryz.f134 := by kernel_rfl
theorem fn135 : T0.fn 135 = some Tryz.f135 := by kernel_rfl
theorem fn136 : T0.fn 136 = some Tryz.f136 := by kernel_rfl
theorem fn137 : T0.fn 137 = some Tryz.f137 := by kernel_rfl
theorem fn138 : T0.fn 138 = some Tryz.f138 := by kernel_rfl
theorem fn139 : T0.fn 139 = some Tryz.f139 := by kernel_rfl
theorem fn140 : T0.fn 140 = some Tryz.f140 := by kernel_rfl
theorem fn141 : T0.fn 141 = some Tryz.f141 := by kernel_rfl
theorem fn142 : T0.fn 142 = some Tryz.f142 := by kernel_rfl
theorem fn143 : T0.fn 143 = some Tryz.f143 := by kernel_rfl
theorem fn144 : T0.fn 144 = some Tryz.f144 := by kernel_rfl
theorem fn145 : T0.fn 145 = some Tryz.f145 := by kernel_rfl
theorem fn146 : T0.fn 146 = some Tryz.f146 := by kernel_rfl
theorem fn147 : T0.fn 147 = some Tryz.f147 := by kernel_rfl
theorem fn148 : T0.fn 148 = some Tryz.f148 := by kernel_rfl
theorem fn149 : T0.fn 149 = some Tryz.f149 := by kernel_rfl
theorem fn150 : T0.fn 150 = some Tryz.f150 := by kernel_rfl
theorem fn151 : T0.fn 151 = some Tryz.f151 := by kernel_rfl
theorem fn152 : T0.fn 152 = some Tryz.f152 := by kernel_rfl
theorem fn153 : T0.fn 153 = some Tryz.f153 := by kernel_rfl
theorem fn154 : T0.fn 154 = some Tryz.f154 := by kernel_rfl
theorem fn155 : T0.fn 155 = some Tryz.f155 := by kernel_rfl
theorem fn156 : T0.fn 156 = some Tryz.f156 := by kernel_rfl
theorem fn157 : T0.fn 157 = some Tryz.f157 := by kernel_rfl
theorem fn158 : T0.fn 158 = some Tryz.f158 := by kernel_rfl
theorem fn159 : T0.fn 159 = some Tryz.f159 := by kernel_rfl
theorem fn160 : T0.fn 160 = some Tryz.f160 := by kernel_rfl
theorem fn161 : T0.fn 161 = some Tryz.f161 := by kernel_rfl
theorem fn162 : T0.fn 162 = some Tryz.f162 := by kernel_rfl
theorem fn163 : T0.fn 163 = some Tryz.f163 := by kernel_rfl
theorem fn164 : T0.fn 164 = some Tryz.f164 := by kernel_rfl
theorem fn165 : T0.fn 165 = some Tryz.f165 := by kernel_rfl
theorem fn166 : T0.fn 166 = some Tryz.f166 := by kernel_rfl
theorem fn167 : T0.fn 167 = some Tryz.f167 := by kernel_rfl
theorem fn168 : T0.fn 168 = some Tryz.f168 := by kernel_rfl
theorem fn169 : T0.fn 169 = some Tryz.f169 := by kernel_rfl
theorem fn170 : T0.fn 170 = some Tryz.f170 := by kernel_rfl
theorem fn171 : T0.fn 171 = some Tryz.f171 := by kernel_rfl
theorem fn172 : T0.fn 172 = some Tryz.f172 := by kernel_rfl
theorem fn173 : T0.fn 173 = some Tryz.f173 := by kernel_rfl
theorem fn174 : T0.fn 174 = some Tryz.f174 := by kernel_rfl
theorem fn175 : T0.fn 175 = some Tryz.f175 := by kernel_rfl
theorem fn176 : T0.fn 176 = some Tryz.f176 := by kernel_rfl
theorem fn177 : T0.fn 177 = some Tryz.f177 := by kernel_rfl
theorem fn178 : T0.fn 178 = some Tryz.f178 := by kernel_rfl
theorem fn179 : T0.fn 179 = some Tryz.f179 := by kernel_rfl
theorem fn180 : T0.fn 180 = some Tryz.f180 := by kernel_rfl
theorem fn181 : T0.fn 181 = some Tryz.f181 := by kernel_rfl
theorem fn182 : T0.fn 182 = some Tryz.f182 := by kernel_rfl
theorem fn183 : T0.fn 183 = some Tryz.f183 := by kernel_rfl
theorem fn184 : T0.fn 184 = some Tryz.f184 := by kernel_rfl
theorem fn185 : T0.fn 185 = some Tryz.f185 := by kernel_rfl
theorem fn186 : T0.fn 186 = some Tryz.f186 := by kernel_rfl
theorem fn187 : T0.fn 187 = some Tryz.f187 := by kernel_rfl
theorem fn188 : T0.fn 188 = some Tryz.f188 := by kernel_rfl
theorem fn189 : T0.fn 189 = some Tryz.f189 := by kernel_rfl
theorem fn190 : T0.fn 190 = some Tryz.f190 := by kernel_rfl
theorem fn191 : T0.fn 191 = some Tryz.f191 := by kernel_rfl
theorem fn192 : T0.fn 192 = some Tryz.f192 := by kernel_rfl
theorem fn193 : T0.fn 193 = some Tryz.f193 := by kernel_rfl
theorem fn194 : T0.fn 194 = some Tryz.f194 := by kernel_rfl
theorem fn195 : T0.fn 195 = some Tryz.f195 := by kernel_rfl
theorem fn196 : T0.fn 196 = some Tryz.f196 := by kernel_rfl
theorem fn197 : T0.fn 197 = some Tryz.f197 := by kernel_rfl
theorem fn198 : T0.fn 198 = some Tryz.f198 := by kernel_rfl
theorem fn199 : T0.fn 199 = some Tryz.f199 := by kernel_rfl
theorem fn200 : T0.fn 200 = some Tryz.f200 := by kernel_rfl
theorem fn201 : T0.fn 201 = some Tryz.f201 := by kernel_rfl
theorem fn202 : T0.fn 202 = some Tryz.f202 := by kernel_rfl
theorem fn203 : T0.fn 203 = some Tryz.f203 := by kernel_rfl
theorem fn204 : T0.fn 204 = some Tryz.f204 := by kernel_rfl
theorem fn205 : T0.fn 205 = some Tryz.f205 := by kernel_rfl
theorem fn206 : T0.fn 206 = some Tryz.f206 := by kernel_rfl
theorem fn207 : T0.fn 207 = some Tryz.f207 := by kernel_rfl
theorem fn208 : T0.fn 208 = some Tryz.f208 := by kernel_rfl
theorem fn209 : T0.fn 209 = some Tryz.f209 := by kernel_rfl
theorem fn210 : T0.fn 210 = some Tryz.f210 := by kernel_rfl
theorem fn211 : T0.fn 211 = some Tryz.f211 := by kernel_rfl
theorem fn212 : T0.fn 212 = some Tryz.f212 := by kernel_rfl
theorem fn215 : T0.fn 215 = some Tryz.f215 := by kernel_rfl
theorem fn216 : T0.fn 216 = some Tryz.f216 := by kernel_rfl
theorem fn217 : T0.fn 217 = some Tryz.f217 := by kernel_rfl
theorem fn218 : T0.fn 218 = some Tryz.f218 := by kernel_rfl
theorem fn219 : T0.fn 219 = some Tryz.f219 := by kernel_rfl
theorem fn221 : T0.fn 221 = some Tryz.f221 := by kernel_rfl
theorem fn222 : T0.fn 222 = some Tryz.f222 := by kernel_rfl
theorem fn223 : T0.fn 223 = some Tryz.f223 := by kernel_rfl
theorem fn224 : T0.fn 224 = some Tryz.f224 := by kernel_rfl
theorem fn225 : T0.fn 225 = some Tryz.f225 := by kernel_rfl
theorem fn226 : T0.fn 226 = some Tryz.f226 := by kernel_rfl
theorem fn227 : T0.fn 227 = some Tryz.f227 := by kernel_rfl
theorem fn228 : T0.fn 228 = some Tryz.f228 := by kernel_rfl
theorem fn229 : T0.fn 229 = some Tryz.f229 := by kernel_rfl
theorem fn230 : T0.fn 230 = some Tryz.f230 := by kernel_rfl
theorem fn3 : T0.fn 3 = some Tryz.f3 := by kernel_rfl
theorem fn4 : T0.fn 4 = some Tryz.f4 := by kernel_rfl
theorem fn5 : T0.fn 5 = some Tryz.f5 := by kernel_rfl
theorem fn6 : T0.fn 6 = some Tryz.f6 := by kernel_rfl
theorem fn7 : T0.fn 7 = some Tryz.f7 := by kernel_rfl
theorem fn8 : T0.fn 8 = some Tryz.f8 := by kernel_rfl
theorem fn9 : T0.fn 9 = some Tryz.f9 := by kernel_rfl
theorem fn10 : T0.fn 10 = some Tryz.f10 := by kernel_rfl
theorem fn11 : T0.fn 11 = some Tryz.f11 := by kernel_rfl
end Go.Proofs.Abs
