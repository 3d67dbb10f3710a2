/-
  The abstract evaluator: kept calls, level over level.
-/
import Derived.Test.YtdkafeammgaknaaGreatDoorEvMemo
import Derived.Test.YtdkafeammgaknaaGreatDoorProg
import Derived.Laws.StandIn
set_option linter.unusedSectionVars false
set_option linter.unusedVariables false
set_option linter.unusedSimpArgs false
namespace Go.Proofs.YtdkafeammgaknaaGreatDoor
open Go Ev
open Tryz
def Lf {α : Type} (x : α) : T α := .n .e (some x) .e
set_option maxRecDepth 100000
noncomputable def fl : List Func := [f0,f1,f2,f3,f4,f5,f6,f7,f8,f9,f10,f11,f12,f13,f14,f15,f16,f17,f18,f19,f20,f21,f22,f23,f24,f25,f26,f27,f28,f29,f30,f31,f32,f33,f34,f35,f36,f37,f38,f39,f40,f41,f42,f43,f44,f45,f46,f47,f48,f49,f50,f51,f52,f53,f54,f55,f56,f57,f58,f59,f60,f61,f62,f63,f64,f65,f66,f67,f68,f69,f70,f71,f72,f73,f74,f75,f76,f77,f78,f79,f80,f81,f82,f83,f84,f85,f86,f87,f88,f89,f90,f91,f92,f93,f94,f95,f96,f97,f98,f99,f100,f101,f102,f103,f104,f105,f106,f107,f108,f109,f110,f111,f112,f113,f114,f115,f116,f117,f118,f119,f120,f121,f122,f123,f124,f125,f126,f127,f128,f129,f130,f131,f132,f133,f134,f135,f136,f137,f138,f139,f140,f141,f142,f143,f144,f145,f146,f147,f148,f149,f150,f151,f152,f153,f154,f155,f156,f157,f158,f159,f160,f161,f162,f163,f164,f165,f166,f167,f168,f169,f170,f171,f172,f173,f174,f175,f176,f177,f178,f179,f180,f181,f182,f183,f184,f185,f186,f187,f188,f189,f190,f191,f192,f193,f194,f195,f196,f197,f198,f199,f200,f201,f202,f203,f204,f205,f206,f207,f208,f209,f210,f211,f212,f213,f214,f215,f216,f217,f218,f219,f220,f221,f222,f223,f224,f225,f226,f227,f228,f229,f230,f231,f232,f233,f234,f235,f236,f237,f238,f239,f240,f241,f242,f243,f244,f245,f246,f247,f248,f249,f250,f251,f252,f253,f254,f255,f256,f257,f258,f259,f260,f261,f262,f263,f264,f265,f266,f267,f268,f269,f270,f271,f272,f273,f274,f275,f276,f277,f278,f279,f280,f281,f282,f283,f284,f285,f286,f287,f288,f289,f290,f291,f292,f293,f294,f295,f296,f297,f298,f299,f300,f301,f302,f303,f304,f305,f306,f307,f308,f309,f310,f311,f312,f313,f314,f315,f316,f317,f318,f319,f320,f321,f322,f323,f324,f325,f326,f327,f328,f329,f330,f331,f332,f333,f334,f335,f336,f337,f338,f339,f340,f341,f342,f343,f344,f345,f346,f347,f348,f349,f350,f351,f352,f353,f354,f355,f356,f357,f358,f359,f360,f361,f362,f363,f364,f365,f366,f367,f368,f369,f370,f371,f372,f373,f374,f375,f376,f377,f378,f379,f380,f381,f382,f383,f384,f385,f386,f387,f388,f389,f390,f391,f392,f393,f394,f395,f396,f397,f398,f399,f400,f401,f402,f403,f404,f405,f406,f407,f408,f409]
noncomputable def tl : List TypeInfo := [t0,t1,t2,t3,t4,t5,t6,t7,t8,t9,t10,t11,t12,t13,t14,t15,t16,t17,t18,t19,t20,t21,t22,t23,t24,t25,t26,t27,t28,t29,t30,t31,t32,t33,t34,t35,t36,t37,t38,t39,t40,t41,t42,t43,t44,t45,t46,t47,t48,t49,t50,t51,t52,t53,t54,t55,t56,t57,t58,t59,t60,t61,t62,t63,t64,t65,t66,t67,t68,t69,t70,t71,t72,t73,t74,t75,t76,t77,t78,t79,t80,t81,t82,t83,t84,t85,t86,t87,t88,t89,t90,t91,t92,t93,t94,t95,t96,t97,t98,t99,t100,t101,t102,t103,t104,t105,t106,t107,t108,t109,t110,t111,t112,t113,t114,t115,t116,t117,t118,t119,t120,t121,t122,t123,t124,t125,t126,t127,t128,t129,t130,t131,t132,t133,t134,t135,t136,t137,t138,t139,t140,t141,t142,t143,t144,t145,t146,t147,t148,t149,t150,t151,t152,t153,t154,t155,t156,t157,t158,t159,t160,t161,t162,t163,t164,t165,t166,t167,t168,t169,t170,t171,t172,t173,t174,t175,t176,t177,t178,t179,t180,t181,t182,t183,t184,t185,t186,t187,t188,t189,t190,t191,t192,t193,t194,t195,t196,t197,t198,t199,t200,t201,t202,t203,t204,t205,t206,t207,t208,t209,t210,t211,t212,t213,t214,t215,t216,t217,t218,t219,t220,t221,t222,t223,t224,t225,t226,t227,t228,t229,t230,t231,t232,t233,t234,t235,t236,t237,t238,t239,t240,t241,t242,t243,t244,t245,t246,t247,t248,t249,t250,t251,t252,t253,t254,t255,t256,t257,t258,t259,t260,t261,t262,t263,t264,t265,t266,t267,t268,t269,t270,t271,t272,t273,t274,t275,t276,t277,t278,t279,t280,t281,t282,t283,t284,t285,t286,t287,t288,t289,t290,t291,t292,t293,t294,t295,t296,t297,t298,t299,t300,t301,t302,t303,t304,t305,t306,t307,t308,t309,t310,t311,t312,t313,t314,t315,t316,t317,t318,t319,t320,t321,t322,t323,t324,t325,t326,t327,t328,t329,t330,t331,t332,t333,t334,t335,t336,t337,t338,t339,t340,t341,t342,t343,t344,t345,t346,t347,t348,t349,t350,t351,t352,t353,t354,t355,t356,t357,t358,t359,t360,t361,t362,t363,t364,t365,t366,t367,t368,t369,t370,t371,t372,t373,t374,t375,t376,t377,t378,t379,t380,t381,t382,t383,t384,t385,t386,t387,t388,t389,t390,t391,t392,t393,t394,t395,t396,t397,t398,t399,t400,t401,t402,t403,t404,t405,t406,t407,t408,t409,t410,t411,t412,t413,t414,t415,t416,t417,t418,t419,t420,t421,t422,t423,t424,t425,t426,t427,t428,t429,t430,t431,t432,t433,t434,t435,t436,t437,t438,t439,t440,t441,t442,t443,t444,t445,t446,t447,t448,t449,t450,t451,t452,t453,t454,t455,t456,t457,t458,t459,t460,t461,t462,t463,t464,t465,t466,t467,t468,t469,t470,t471,t472,t473,t474,t475,t476,t477,t478,t479,t480,t481]
noncomputable def fnT : T Func := (.n (.n (.n (.n (.n (.n (.n (.n (Lf f255) (some f127) (Lf f383)) (some f63) (.n (Lf f319) (some f191) .e)) (some f31) (.n (.n (Lf f287) (some f159) .e) (some f95) (.n (Lf f351) (some f223) .e))) (some f15) (.n (.n (.n (Lf f271) (some f143) (Lf f399)) (some f79) (.n (Lf f335) (some f207) .e)) (some f47) (.n (.n (Lf f303) (some f175) .e) (some f111) (.n (Lf f367) (some f239) .e)))) (some f7) (.n (.n (.n (.n (Lf f263) (some f135) (Lf f391)) (some f71) (.n (Lf f327) (some f199) .e)) (some f39) (.n (.n (Lf f295) (some f167) .e) (some f103) (.n (Lf f359) (some f231) .e))) (some f23) (.n (.n (.n (Lf f279) (some f151) (Lf f407)) (some f87) (.n (Lf f343) (some f215) .e)) (some f55) (.n (.n (Lf f311) (some f183) .e) (some f119) (.n (Lf f375) (some f247) .e))))) (some f3) (.n (.n (.n (.n (.n (Lf f259) (some f131) (Lf f387)) (some f67) (.n (Lf f323) (some f195) .e)) (some f35) (.n (.n (Lf f291) (some f163) .e) (some f99) (.n (Lf f355) (some f227) .e))) (some f19) (.n (.n (.n (Lf f275) (some f147) (Lf f403)) (some f83) (.n (Lf f339) (some f211) .e)) (some f51) (.n (.n (Lf f307) (some f179) .e) (some f115) (.n (Lf f371) (some f243) .e)))) (some f11) (.n (.n (.n (.n (Lf f267) (some f139) (Lf f395)) (some f75) (.n (Lf f331) (some f203) .e)) (some f43) (.n (.n (Lf f299) (some f171) .e) (some f107) (.n (Lf f363) (some f235) .e))) (some f27) (.n (.n (.n (Lf f283) (some f155) .e) (some f91) (.n (Lf f347) (some f219) .e)) (some f59) (.n (.n (Lf f315) (some f187) .e) (some f123) (.n (Lf f379) (some f251) .e)))))) (some f1) (.n (.n (.n (.n (.n (.n (Lf f257) (some f129) (Lf f385)) (some f65) (.n (Lf f321) (some f193) .e)) (some f33) (.n (.n (Lf f289) (some f161) .e) (some f97) (.n (Lf f353) (some f225) .e))) (some f17) (.n (.n (.n (Lf f273) (some f145) (Lf f401)) (some f81) (.n (Lf f337) (some f209) .e)) (some f49) (.n (.n (Lf f305) (some f177) .e) (some f113) (.n (Lf f369) (some f241) .e)))) (some f9) (.n (.n (.n (.n (Lf f265) (some f137) (Lf f393)) (some f73) (.n (Lf f329) (some f201) .e)) (some f41) (.n (.n (Lf f297) (some f169) .e) (some f105) (.n (Lf f361) (some f233) .e))) (some f25) (.n (.n (.n (Lf f281) (some f153) (Lf f409)) (some f89) (.n (Lf f345) (some f217) .e)) (some f57) (.n (.n (Lf f313) (some f185) .e) (some f121) (.n (Lf f377) (some f249) .e))))) (some f5) (.n (.n (.n (.n (.n (Lf f261) (some f133) (Lf f389)) (some f69) (.n (Lf f325) (some f197) .e)) (some f37) (.n (.n (Lf f293) (some f165) .e) (some f101) (.n (Lf f357) (some f229) .e))) (some f21) (.n (.n (.n (Lf f277) (some f149) (Lf f405)) (some f85) (.n (Lf f341) (some f213) .e)) (some f53) (.n (.n (Lf f309) (some f181) .e) (some f117) (.n (Lf f373) (some f245) .e)))) (some f13) (.n (.n (.n (.n (Lf f269) (some f141) (Lf f397)) (some f77) (.n (Lf f333) (some f205) .e)) (some f45) (.n (.n (Lf f301) (some f173) .e) (some f109) (.n (Lf f365) (some f237) .e))) (some f29) (.n (.n (.n (Lf f285) (some f157) .e) (some f93) (.n (Lf f349) (some f221) .e)) (some f61) (.n (.n (Lf f317) (some f189) .e) (some f125) (.n (Lf f381) (some f253) .e))))))) (some f0) (.n (.n (.n (.n (.n (.n (.n (Lf f256) (some f128) (Lf f384)) (some f64) (.n (Lf f320) (some f192) .e)) (some f32) (.n (.n (Lf f288) (some f160) .e) (some f96) (.n (Lf f352) (some f224) .e))) (some f16) (.n (.n (.n (Lf f272) (some f144) (Lf f400)) (some f80) (.n (Lf f336) (some f208) .e)) (some f48) (.n (.n (Lf f304) (some f176) .e) (some f112) (.n (Lf f368) (some f240) .e)))) (some f8) (.n (.n (.n (.n (Lf f264) (some f136) (Lf f392)) (some f72) (.n (Lf f328) (some f200) .e)) (some f40) (.n (.n (Lf f296) (some f168) .e) (some f104) (.n (Lf f360) (some f232) .e))) (some f24) (.n (.n (.n (Lf f280) (some f152) (Lf f408)) (some f88) (.n (Lf f344) (some f216) .e)) (some f56) (.n (.n (Lf f312) (some f184) .e) (some f120) (.n (Lf f376) (some f248) .e))))) (some f4) (.n (.n (.n (.n (.n (Lf f260) (some f132) (Lf f388)) (some f68) (.n (Lf f324) (some f196) .e)) (some f36) (.n (.n (Lf f292) (some f164) .e) (some f100) (.n (Lf f356) (some f228) .e))) (some f20) (.n (.n (.n (Lf f276) (some f148) (Lf f404)) (some f84) (.n (Lf f340) (some f212) .e)) (some f52) (.n (.n (Lf f308) (some f180) .e) (some f116) (.n (Lf f372) (some f244) .e)))) (some f12) (.n (.n (.n (.n (Lf f268) (some f140) (Lf f396)) (some f76) (.n (Lf f332) (some f204) .e)) (some f44) (.n (.n (Lf f300) (some f172) .e) (some f108) (.n (Lf f364) (some f236) .e))) (some f28) (.n (.n (.n (Lf f284) (some f156) .e) (some f92) (.n (Lf f348) (some f220) .e)) (some f60) (.n (.n (Lf f316) (some f188) .e) (some f124) (.n (Lf f380) (some f252) .e)))))) (some f2) (.n (.n (.n (.n (.n (.n (Lf f258) (some f130) (Lf f386)) (some f66) (.n (Lf f322) (some f194) .e)) (some f34) (.n (.n (Lf f290) (some f162) .e) (some f98) (.n (Lf f354) (some f226) .e))) (some f18) (.n (.n (.n (Lf f274) (some f146) (Lf f402)) (some f82) (.n (Lf f338) (some f210) .e)) (some f50) (.n (.n (Lf f306) (some f178) .e) (some f114) (.n (Lf f370) (some f242) .e)))) (some f10) (.n (.n (.n (.n (Lf f266) (some f138) (Lf f394)) (some f74) (.n (Lf f330) (some f202) .e)) (some f42) (.n (.n (Lf f298) (some f170) .e) (some f106) (.n (Lf f362) (some f234) .e))) (some f26) (.n (.n (.n (Lf f282) (some f154) .e) (some f90) (.n (Lf f346) (some f218) .e)) (some f58) (.n (.n (Lf f314) (some f186) .e) (some f122) (.n (Lf f378) (some f250) .e))))) (some f6) (.n (.n (.n (.n (.n (Lf f262) (some f134) (Lf f390)) (some f70) (.n (Lf f326) (some f198) .e)) (some f38) (.n (.n (Lf f294) (some f166) .e) (some f102) (.n (Lf f358) (some f230) .e))) (some f22) (.n (.n (.n (Lf f278) (some f150) (Lf f406)) (some f86) (.n (Lf f342) (some f214) .e)) (some f54) (.n (.n (Lf f310) (some f182) .e) (some f118) (.n (Lf f374) (some f246) .e)))) (some f14) (.n (.n (.n (.n (Lf f270) (some f142) (Lf f398)) (some f78) (.n (Lf f334) (some f206) .e)) (some f46) (.n (.n (Lf f302) (some f174) .e) (some f110) (.n (Lf f366) (some f238) .e))) (some f30) (.n (.n (.n (Lf f286) (some f158) .e) (some f94) (.n (Lf f350) (some f222) .e)) (some f62) (.n (.n (Lf f318) (some f190) .e) (some f126) (.n (Lf f382) (some f254) .e))))))))
noncomputable def tyT : T TypeInfo := (.n (.n (.n (.n (.n (.n (.n (.n (Lf t255) (some t127) (Lf t383)) (some t63) (.n (Lf t319) (some t191) (Lf t447))) (some t31) (.n (.n (Lf t287) (some t159) (Lf t415)) (some t95) (.n (Lf t351) (some t223) (Lf t479)))) (some t15) (.n (.n (.n (Lf t271) (some t143) (Lf t399)) (some t79) (.n (Lf t335) (some t207) (Lf t463))) (some t47) (.n (.n (Lf t303) (some t175) (Lf t431)) (some t111) (.n (Lf t367) (some t239) .e)))) (some t7) (.n (.n (.n (.n (Lf t263) (some t135) (Lf t391)) (some t71) (.n (Lf t327) (some t199) (Lf t455))) (some t39) (.n (.n (Lf t295) (some t167) (Lf t423)) (some t103) (.n (Lf t359) (some t231) .e))) (some t23) (.n (.n (.n (Lf t279) (some t151) (Lf t407)) (some t87) (.n (Lf t343) (some t215) (Lf t471))) (some t55) (.n (.n (Lf t311) (some t183) (Lf t439)) (some t119) (.n (Lf t375) (some t247) .e))))) (some t3) (.n (.n (.n (.n (.n (Lf t259) (some t131) (Lf t387)) (some t67) (.n (Lf t323) (some t195) (Lf t451))) (some t35) (.n (.n (Lf t291) (some t163) (Lf t419)) (some t99) (.n (Lf t355) (some t227) .e))) (some t19) (.n (.n (.n (Lf t275) (some t147) (Lf t403)) (some t83) (.n (Lf t339) (some t211) (Lf t467))) (some t51) (.n (.n (Lf t307) (some t179) (Lf t435)) (some t115) (.n (Lf t371) (some t243) .e)))) (some t11) (.n (.n (.n (.n (Lf t267) (some t139) (Lf t395)) (some t75) (.n (Lf t331) (some t203) (Lf t459))) (some t43) (.n (.n (Lf t299) (some t171) (Lf t427)) (some t107) (.n (Lf t363) (some t235) .e))) (some t27) (.n (.n (.n (Lf t283) (some t155) (Lf t411)) (some t91) (.n (Lf t347) (some t219) (Lf t475))) (some t59) (.n (.n (Lf t315) (some t187) (Lf t443)) (some t123) (.n (Lf t379) (some t251) .e)))))) (some t1) (.n (.n (.n (.n (.n (.n (Lf t257) (some t129) (Lf t385)) (some t65) (.n (Lf t321) (some t193) (Lf t449))) (some t33) (.n (.n (Lf t289) (some t161) (Lf t417)) (some t97) (.n (Lf t353) (some t225) (Lf t481)))) (some t17) (.n (.n (.n (Lf t273) (some t145) (Lf t401)) (some t81) (.n (Lf t337) (some t209) (Lf t465))) (some t49) (.n (.n (Lf t305) (some t177) (Lf t433)) (some t113) (.n (Lf t369) (some t241) .e)))) (some t9) (.n (.n (.n (.n (Lf t265) (some t137) (Lf t393)) (some t73) (.n (Lf t329) (some t201) (Lf t457))) (some t41) (.n (.n (Lf t297) (some t169) (Lf t425)) (some t105) (.n (Lf t361) (some t233) .e))) (some t25) (.n (.n (.n (Lf t281) (some t153) (Lf t409)) (some t89) (.n (Lf t345) (some t217) (Lf t473))) (some t57) (.n (.n (Lf t313) (some t185) (Lf t441)) (some t121) (.n (Lf t377) (some t249) .e))))) (some t5) (.n (.n (.n (.n (.n (Lf t261) (some t133) (Lf t389)) (some t69) (.n (Lf t325) (some t197) (Lf t453))) (some t37) (.n (.n (Lf t293) (some t165) (Lf t421)) (some t101) (.n (Lf t357) (some t229) .e))) (some t21) (.n (.n (.n (Lf t277) (some t149) (Lf t405)) (some t85) (.n (Lf t341) (some t213) (Lf t469))) (some t53) (.n (.n (Lf t309) (some t181) (Lf t437)) (some t117) (.n (Lf t373) (some t245) .e)))) (some t13) (.n (.n (.n (.n (Lf t269) (some t141) (Lf t397)) (some t77) (.n (Lf t333) (some t205) (Lf t461))) (some t45) (.n (.n (Lf t301) (some t173) (Lf t429)) (some t109) (.n (Lf t365) (some t237) .e))) (some t29) (.n (.n (.n (Lf t285) (some t157) (Lf t413)) (some t93) (.n (Lf t349) (some t221) (Lf t477))) (some t61) (.n (.n (Lf t317) (some t189) (Lf t445)) (some t125) (.n (Lf t381) (some t253) .e))))))) (some t0) (.n (.n (.n (.n (.n (.n (.n (Lf t256) (some t128) (Lf t384)) (some t64) (.n (Lf t320) (some t192) (Lf t448))) (some t32) (.n (.n (Lf t288) (some t160) (Lf t416)) (some t96) (.n (Lf t352) (some t224) (Lf t480)))) (some t16) (.n (.n (.n (Lf t272) (some t144) (Lf t400)) (some t80) (.n (Lf t336) (some t208) (Lf t464))) (some t48) (.n (.n (Lf t304) (some t176) (Lf t432)) (some t112) (.n (Lf t368) (some t240) .e)))) (some t8) (.n (.n (.n (.n (Lf t264) (some t136) (Lf t392)) (some t72) (.n (Lf t328) (some t200) (Lf t456))) (some t40) (.n (.n (Lf t296) (some t168) (Lf t424)) (some t104) (.n (Lf t360) (some t232) .e))) (some t24) (.n (.n (.n (Lf t280) (some t152) (Lf t408)) (some t88) (.n (Lf t344) (some t216) (Lf t472))) (some t56) (.n (.n (Lf t312) (some t184) (Lf t440)) (some t120) (.n (Lf t376) (some t248) .e))))) (some t4) (.n (.n (.n (.n (.n (Lf t260) (some t132) (Lf t388)) (some t68) (.n (Lf t324) (some t196) (Lf t452))) (some t36) (.n (.n (Lf t292) (some t164) (Lf t420)) (some t100) (.n (Lf t356) (some t228) .e))) (some t20) (.n (.n (.n (Lf t276) (some t148) (Lf t404)) (some t84) (.n (Lf t340) (some t212) (Lf t468))) (some t52) (.n (.n (Lf t308) (some t180) (Lf t436)) (some t116) (.n (Lf t372) (some t244) .e)))) (some t12) (.n (.n (.n (.n (Lf t268) (some t140) (Lf t396)) (some t76) (.n (Lf t332) (some t204) (Lf t460))) (some t44) (.n (.n (Lf t300) (some t172) (Lf t428)) (some t108) (.n (Lf t364) (some t236) .e))) (some t28) (.n (.n (.n (Lf t284) (some t156) (Lf t412)) (some t92) (.n (Lf t348) (some t220) (Lf t476))) (some t60) (.n (.n (Lf t316) (some t188) (Lf t444)) (some t124) (.n (Lf t380) (some t252) .e)))))) (some t2) (.n (.n (.n (.n (.n (.n (Lf t258) (some t130) (Lf t386)) (some t66) (.n (Lf t322) (some t194) (Lf t450))) (some t34) (.n (.n (Lf t290) (some t162) (Lf t418)) (some t98) (.n (Lf t354) (some t226) .e))) (some t18) (.n (.n (.n (Lf t274) (some t146) (Lf t402)) (some t82) (.n (Lf t338) (some t210) (Lf t466))) (some t50) (.n (.n (Lf t306) (some t178) (Lf t434)) (some t114) (.n (Lf t370) (some t242) .e)))) (some t10) (.n (.n (.n (.n (Lf t266) (some t138) (Lf t394)) (some t74) (.n (Lf t330) (some t202) (Lf t458))) (some t42) (.n (.n (Lf t298) (some t170) (Lf t426)) (some t106) (.n (Lf t362) (some t234) .e))) (some t26) (.n (.n (.n (Lf t282) (some t154) (Lf t410)) (some t90) (.n (Lf t346) (some t218) (Lf t474))) (some t58) (.n (.n (Lf t314) (some t186) (Lf t442)) (some t122) (.n (Lf t378) (some t250) .e))))) (some t6) (.n (.n (.n (.n (.n (Lf t262) (some t134) (Lf t390)) (some t70) (.n (Lf t326) (some t198) (Lf t454))) (some t38) (.n (.n (Lf t294) (some t166) (Lf t422)) (some t102) (.n (Lf t358) (some t230) .e))) (some t22) (.n (.n (.n (Lf t278) (some t150) (Lf t406)) (some t86) (.n (Lf t342) (some t214) (Lf t470))) (some t54) (.n (.n (Lf t310) (some t182) (Lf t438)) (some t118) (.n (Lf t374) (some t246) .e)))) (some t14) (.n (.n (.n (.n (Lf t270) (some t142) (Lf t398)) (some t78) (.n (Lf t334) (some t206) (Lf t462))) (some t46) (.n (.n (Lf t302) (some t174) (Lf t430)) (some t110) (.n (Lf t366) (some t238) .e))) (some t30) (.n (.n (.n (Lf t286) (some t158) (Lf t414)) (some t94) (.n (Lf t350) (some t222) (Lf t478))) (some t62) (.n (.n (Lf t318) (some t190) (Lf t446)) (some t126) (.n (Lf t382) (some t254) .e))))))))
theorem funcs_eq : Tryz.prog.funcs = fl.toArray := by kernel_rfl
theorem types_eq : Tryz.prog.types = tl.toArray := by kernel_rfl
theorem fnT_eq : fnT = T.ofList .e 0 fl := by kernel_rfl
theorem tyT_eq : tyT = T.ofList .e 0 tl := by kernel_rfl
noncomputable def und (t : Nat) : Option TypeDesc :=
 match tyT.get t with
 | some i => match i.desc with
  | .named _ u => (tyT.get u).map (·.desc)
  | d => some d
 | none => none
def goodL : List Nat := [7,8,13,14,18,19,23,24,25,27,28,29,30,31,32,33,34,35,41,42,44,45,47,48,49,50,51,52,56,57,80,81,84,85,94,95,96,97,98,99,101,102,103,104,105,106,107,108,109,125,126,128,129,130,134,135,149,150,151,157,161,162,171,172,181,182,190,191,206,207,208,236,237,247,251,285,286,332,333,353,354,417,449,450,459,460,461,464,465,466,467,468,469,470,471,472,479,480]
def heldL : List Nat := [7,8,24,25,27,28,30,31,32,33,34,35,41,42,44,45,47,48,49,50,51,52,56,57,80,81,84,85,94,95,96,97,98,99,101,102,103,104,106,107,108,109,125,126,129,130,134,135,150,151,171,172,190,191,236,237,285,286,332,333,353,354,456,457,459,460,464,465]
def goodT : T Unit := (.n (.n (.n (.n (.n (.n (.n .e none (Lf ())) (some ()) (.n .e (some ()) (.n .e none (Lf ())))) none (.n (.n .e none (Lf ())) (some ()) .e)) (some ()) (.n (.n (.n (Lf ()) none .e) none (Lf ())) (some ()) (.n (.n (Lf ()) none (.n .e none (Lf ()))) none (.n .e none (Lf ()))))) none (.n (.n (.n .e (some ()) (Lf ())) (some ()) (.n (.n .e none (.n .e none (Lf ()))) (some ()) .e)) none (.n (.n (.n .e none (.n .e none (Lf ()))) none (.n (Lf ()) (some ()) .e)) (some ()) (.n .e none (.n .e none (Lf ())))))) none (.n (.n (.n (.n (.n (Lf ()) none (.n .e none (Lf ()))) (some ()) (.n (.n .e (some ()) (Lf ())) (some ()) (.n (Lf ()) none .e))) none (.n (.n .e (some ()) (.n .e none (Lf ()))) (some ()) .e)) none (.n (.n .e (some ()) (Lf ())) (some ()) (Lf ()))) none (.n (.n (.n .e none (Lf ())) none (.n (.n (Lf ()) (some ()) (.n .e none (Lf ()))) none (.n (Lf ()) none .e))) (some ()) (.n (.n (.n .e none (.n (Lf ()) none (Lf ()))) (some ()) (.n .e (some ()) (Lf ()))) (some ()) (.n (.n (.n (Lf ()) (some ()) .e) none .e) none (Lf ())))))) none (.n (.n (.n (.n (.n (.n (Lf ()) none .e) (some ()) (.n .e (some ()) (.n .e none (Lf ())))) none (.n (.n .e (some ()) (.n .e (some ()) (Lf ()))) (some ()) .e)) (some ()) (.n (.n .e none (Lf ())) (some ()) (.n (.n .e none (.n .e none (Lf ()))) (some ()) .e))) none (.n (.n .e none (.n (.n .e (some ()) (.n .e none (Lf ()))) (some ()) .e)) none (.n (.n (.n .e none (.n (Lf ()) none (Lf ()))) (some ()) (.n (Lf ()) (some ()) (Lf ()))) (some ()) .e))) none (.n (.n (.n (.n (.n (Lf ()) none (.n .e none (Lf ()))) (some ()) (.n (Lf ()) (some ()) (.n (Lf ()) none .e))) (some ()) (.n (.n .e none (.n .e none (Lf ()))) (some ()) .e)) none (.n (.n .e (some ()) (Lf ())) none .e)) none (.n (.n (.n (.n (Lf ()) none .e) none (Lf ())) none (.n (.n (Lf ()) none (.n .e none (Lf ()))) none (.n (Lf ()) none .e))) (some ()) (.n (.n (.n .e none (Lf ())) none .e) (some ()) (.n (.n (.n (Lf ()) none .e) (some ()) .e) none (.n (Lf ()) (some ()) .e)))))))
def heldT : T Unit := (.n (.n (.n (.n (.n (.n (.n .e none (Lf ())) (some ()) (Lf ())) none (Lf ())) (some ()) (.n (.n (.n (Lf ()) none .e) none (Lf ())) none (.n (.n (Lf ()) none .e) none .e))) none (.n (.n (.n .e (some ()) (Lf ())) none (Lf ())) none (.n (.n (.n .e none (.n .e none (Lf ()))) none (.n (Lf ()) (some ()) .e)) (some ()) .e))) none (.n (.n (.n (.n (.n (Lf ()) none .e) (some ()) (.n .e (some ()) (.n (Lf ()) none .e))) none (.n (.n .e (some ()) (.n .e none (Lf ()))) (some ()) .e)) none (.n (.n (.n .e none (.n .e none (Lf ()))) (some ()) .e) (some ()) (Lf ()))) none (.n (.n (.n .e none (Lf ())) none (.n (Lf ()) none .e)) none (.n (.n (.n .e none (.n (Lf ()) none .e)) (some ()) (.n .e (some ()) (Lf ()))) none (.n (.n (.n (Lf ()) none .e) none .e) none (Lf ())))))) none (.n (.n (.n (.n (.n .e (some ()) (Lf ())) none (.n (.n .e (some ()) (.n .e none (Lf ()))) (some ()) .e)) (some ()) (.n (.n (.n .e none (.n .e none (Lf ()))) none (Lf ())) (some ()) (Lf ()))) none (.n (.n .e none (.n (Lf ()) (some ()) .e)) none (.n (.n (.n .e none (.n (Lf ()) none (Lf ()))) (some ()) (.n (Lf ()) (some ()) (Lf ()))) (some ()) .e))) none (.n (.n (.n (.n (.n (Lf ()) none .e) (some ()) (.n .e (some ()) (.n (Lf ()) none .e))) none (Lf ())) none (.n (.n .e (some ()) (Lf ())) none .e)) none (.n (.n (.n (.n (Lf ()) none .e) none (Lf ())) none (.n (.n (Lf ()) none .e) none .e)) none (.n .e (some ()) (.n (.n (.n (Lf ()) none .e) (some ()) .e) none (.n (Lf ()) (some ()) .e)))))))
noncomputable def setOf : List Nat → T Unit
 | [] => .e
 | k :: ks => (setOf ks).set k ()
theorem setOf_mem : ∀ {l : List Nat} {k : Nat},(setOf l).get k = some () → k ∈ l
 | [],k,h => by rw [setOf,T.get_e] at h; cases h
 | j :: l,k,h => by
  rw [setOf,T.get_set] at h
  by_cases hk : k = j
  ·subst hk; exact List.mem_cons_self ..
  ·rw [if_neg hk] at h; exact List.mem_cons_of_mem _ (setOf_mem h)
theorem goodT_eq : goodT = setOf goodL := by kernel_rfl
theorem heldT_eq : heldT = setOf heldL := by kernel_rfl
theorem good_all : (goodL.all fun t => !(Tryz.prog.eqGuardType Tryz.prog.depth t)) = true := by kernel_rfl
theorem held_all : (heldL.all fun t => !(Tryz.prog.stoodInHeld t)) = true := by kernel_rfl
def pow10 : List V := [.int .u64 1,.int .u64 10,.int .u64 100,.int .u64 1000,.int .u64 10000,.int .u64 100000,.int .u64 1000000,.int .u64 10000000,.int .u64 100000000,.int .u64 1000000000,.int .u64 10000000000,.int .u64 100000000000,.int .u64 1000000000000,.int .u64 10000000000000,.int .u64 100000000000000,.int .u64 1000000000000000,.int .u64 10000000000000000,.int .u64 100000000000000000,.int .u64 1000000000000000000,.int .u64 10000000000000000000]
def globs (n : Nat) : Option (List V) := cond (Nat.beq n 1) (some pow10) none
noncomputable def tb0 : Tab := { fn := fnT.get,und := und,inf := tyT.get,guard := fun t => (goodT.get t).isNone,held := fun t => (heldT.get t).isNone,focus := fun f => Nat.beq f 121,prim := fun _ _ => none,rm := fun _ => none,glob := globs,eqs := fun _ _ => none,eqi := fun _ _ => none,bin := fun _ _ _ => none,conv := fun _ _ _ => none,keyS := fun _ => false,lenS := fun _ => none }
theorem inf_eq {t : Nat} {i : TypeInfo} (h : tyT.get t = some i) : Tryz.prog.info? t = some i := by
 rw [tyT_eq,T.get_ofList] at h
 split at h
 ·rename_i hh
  have e : Tryz.prog.types[t]? = some i := by rw [types_eq]; simpa using h
  have hlt : t < Tryz.prog.types.size := (Array.getElem?_eq_some_iff.1 e).1
  show Tables.info? _ t = _
  unfold Tables.info?
  rw [if_pos hlt]; exact e
 ·rw [T.get_e] at h; cases h
theorem tabOk : TabOk tb0 Tryz.prog := by
 refine ⟨fun k f h => ?_,fun t d h => ?_,fun t i h => inf_eq h,fun t h => ?_,fun t h => ?_⟩
 ·have h : fnT.get k = some f := h
  rw [fnT_eq,T.get_ofList] at h
  split at h
  ·rw [funcs_eq]; simpa using h
  ·rw [T.get_e] at h; cases h
 ·have h : und t = some d := h
  unfold und at h
  unfold Program.underlying
  cases hi : tyT.get t with
  | none => rw [hi] at h; cases h
  | some i =>
   rw [inf_eq hi]
   simp only [hi] at h
   obtain ⟨desc,rest⟩ := i
   simp only at h ⊢
   cases desc <;> simp only at h ⊢ <;> try exact h
   rename_i u
   cases hu : tyT.get u with
   | none => rw [hu] at h; cases h
   | some j => rw [hu] at h; rw [inf_eq hu]; exact h
 ·have h : (goodT.get t).isNone = false := h
  cases hg : goodT.get t with
  | none => rw [hg] at h; cases h
  | some u =>
   rw [goodT_eq] at hg
   have := List.all_eq_true.1 good_all t (setOf_mem hg)
   simpa using this
 ·have h : (heldT.get t).isNone = false := h
  cases hg : heldT.get t with
  | none => rw [hg] at h; cases h
  | some u =>
   rw [heldT_eq] at hg
   have := List.all_eq_true.1 held_all t (setOf_mem hg)
   simpa using this
def named (fn : Func) : Bool := fn.body.isNone || !(fn.name == "runtime.NumGoroutine")
theorem named_all : (fl.all named) = true := by kernel_rfl
def extRow (k : Nat) (fn : Func) : Bool := fn.body.isSome || (extOf fn).isNone || Nat.beq k 313 || Nat.beq k 357 || Nat.beq k 358
def extRows : List Func → Nat → Bool
 | [],_ => true
 | fn :: r,k => extRow k fn && extRows r (k + 1)
theorem extRows_get : ∀ {l : List Func} {k j : Nat} {fn : Func},extRows l k = true → l[j]? = some fn → extRow (k + j) fn = true
 | [],_,_,_,_,h => by simp at h
 | x :: l,k,0,fn,h,hj => by
  simp only [extRows,Bool.and_eq_true] at h
  simp at hj; subst hj; exact h.1
 | x :: l,k,j + 1,fn,h,hj => by
  simp only [extRows,Bool.and_eq_true] at h
  have := extRows_get h.2 (by simpa using hj)
  rwa [show k + 1 + j = k + (j + 1) from by omega] at this
theorem ext_all : extRows fl 0 = true := by kernel_rfl
theorem find313 : Extern.find f313 = some Extern.BytealgCompare.compare := by kernel_rfl
theorem next313 : (Extern.findNext f313).isNone = true := by kernel_rfl
theorem ext313 : (match extOf f313 with | some .cmp => true | _ => false) = true := by kernel_rfl
theorem find357 : Extern.find f357 = some Extern.AbiNoEscape.same := by kernel_rfl
theorem next357 : (Extern.findNext f357).isNone = true := by kernel_rfl
theorem ext357 : (match extOf f357 with | some .noEscape => true | _ => false) = true := by kernel_rfl
theorem find358 : Extern.find f358 = some Extern.BytealgIndexByte.indexByte := by kernel_rfl
theorem next358 : (Extern.findNext f358).isNone = true := by kernel_rfl
theorem ext358 : (match extOf f358 with | some .indexByte => true | _ => false) = true := by kernel_rfl
end Go.Proofs.YtdkafeammgaknaaGreatDoor
namespace Go.Proofs.YtdkafeammgaknaaGreatDoor
open Go Ev
def Pow (w0 : Base) : Prop := (1 < w0.heap.size ∧ w0.frz 1) ∧ ∃ rc e fr,w0.heap[1]? = some (.cells rc e fr) ∧ ∀ E,CellsR E pow10 rc
theorem mixed_ok : Tryz.prog.follows .mixedOrders = true := by kernel_rfl
theorem fn_mem {k : Nat} {fn : Func} (h : tb0.fn k = some fn) : fl[k]? = some fn := by
 have h : fnT.get k = some fn := h
 rw [fnT_eq,T.get_ofList] at h
 split at h
 ·simpa using h
 ·rw [T.get_e] at h; cases h
theorem enter_ok {k : Nat} {fn : Func} {b : Code} (h : tb0.fn k = some fn) (hb : fn.body = some b) (args : Array Value) (w : World) : (callFunc k args).run Tryz.prog w = .ok (.enter k args) w := by
 have hf := tabOk.fn k fn h
 have hn := List.all_eq_true.1 named_all fn (List.mem_of_getElem? (fn_mem h))
 have h1 : fn.name ≠ "runtime.NumGoroutine" := by simpa [named,hb] using hn
 simp [callFunc,hf,h1,hb]
theorem ext_named {fn : Func} {x : Ext} (h : extOf fn = some x) : (fn.name == "runtime.NumGoroutine") = false := by
 unfold extOf at h
 split at h
 ·rename_i e; rw [e]; decide
 ·split at h
  ·rename_i e; rw [e]; decide
  ·split at h
   ·rename_i e; rw [e]; decide
   ·cases h
theorem ext_ok {k : Nat} {fn : Func} {x : Ext} (h : tb0.fn k = some fn) (hb : fn.body = none) (hx : extOf fn = some x) (args : Array Value) (w : World) :
  (callFunc k args).run Tryz.prog w = ((extSem x args).run Tryz.prog w).andThen fun v w' => .ok (.value v) w' := by
 have hf := tabOk.fn k fn h
 have hr := extRows_get ext_all (fn_mem h)
 rw [Nat.zero_add] at hr
 have hk : k = 313 ∨ k = 357 ∨ k = 358 := by
  simp only [extRow,hb,hx,Option.isSome_none,Option.isNone_some,Bool.or_eq_true,Bool.false_eq_true,false_or] at hr
  rcases hr with (h1 | h1) | h1 <;> (have h2 := nbeq_true h1; omega)
 have hbn : fn.body.isNone = true := by rw [hb]; rfl
 rcases hk with rfl | rfl | rfl
 ·obtain rfl : fn = Tryz.f313 := Option.some.inj (hf.symm.trans Tryz.func313)
  have he := ext313
  rw [hx] at he
  cases x <;> simp at he
  exact run_callFunc_standIn hf (ext_named hx) hbn (Option.isNone_iff_eq_none.1 next313) find313 args w
 ·obtain rfl : fn = Tryz.f357 := Option.some.inj (hf.symm.trans Tryz.func357)
  have he := ext357
  rw [hx] at he
  cases x <;> simp at he
  exact run_callFunc_standIn hf (ext_named hx) hbn (Option.isNone_iff_eq_none.1 next357) find357 args w
 ·obtain rfl : fn = Tryz.f358 := Option.some.inj (hf.symm.trans Tryz.func358)
  have he := ext358
  rw [hx] at he
  cases x <;> simp at he
  exact run_callFunc_standIn hf (ext_named hx) hbn (Option.isNone_iff_eq_none.1 next358) find358 args w
theorem fnOk {w0 : Base} (hg : Pow w0) : FnOk tb0 Tryz.prog w0 := by
 refine ⟨mixed_ok,fun E _ => ⟨(fun _ _ _ h => by cases h),(fun _ _ _ h => by cases h),(fun _ _ _ _ h => by cases h),(fun _ _ _ _ h => by cases h),(fun _ h => by cases h),(fun _ _ h => by cases h),(fun _ _ _ _ h => by cases h),(fun _ _ _ _ h => by cases h)⟩,fun n c h => ?_,(fun _ _ _ h => by cases h),fun k fn b h hb => enter_ok h hb,fun k fn x h hb hx => ext_ok h hb hx,
  fun f args v h => (by cases h),fun f es h => (by cases h)⟩
 have h : globs n = some c := h
 unfold globs at h
 cases hn : Nat.beq n 1 with
 | false => rw [hn] at h; cases h
 | true =>
  rw [hn] at h
  cases h
  obtain rfl := nbeq_true hn
  obtain ⟨h1,rc,e,fr,h2,h3⟩ := hg
  have hb : blkOf w0 1 = 1 := rfl
  exact ⟨by omega,by rw [hb]; exact h1,rc,e,fr,by rw [hb]; exact h2,fun E _ => h3 E⟩
end Go.Proofs.YtdkafeammgaknaaGreatDoor
namespace Ev
open Go
noncomputable def Tab.over (tb : Tab) (t : T (List (List V × V))) (k : T (List RM)) : Tab :=
 {tb with
  prim := fun f args => match primOf t f args with
   | some v => some v
   | none => tb.prim f args
  rm := fun f => match k.get f with
   | none => tb.rm f
   | some es => match tb.rm f with
    | none => some es
    | some fs => some (es ++ fs) }
noncomputable def chkRs (tb : Tab) (rounds n : Nat) (l : Kept) : Bool := l.all fun e => chkR tb rounds n e.1 e.2
section
variable {tb : Tab} {P : Program} {w0 : Base}
theorem TabOk.over (h : TabOk tb P) (t : T (List (List V × V))) (k : T (List RM)) : TabOk (tb.over t k) P := ⟨h.fn,h.und,h.inf,h.guard,h.held⟩
theorem chkRs_ok (hT : TabOk tb P) (hF : FnOk tb P w0) {rounds n : Nat} {l : Kept} (h : chkRs tb rounds n l = true) : Kepts P w0 l := fun e he => by
 simp only [chkRs,List.all_eq_true] at h
 exact chkR_ok hT hF (h e he)
theorem FnOk.over (hT : TabOk tb P) (h : FnOk tb P w0) {l : Memo} {t : T (List (List V × V))} (ht : t = mkMemo l) {rounds n : Nat} (hl : chk tb rounds n l = true) {m : Kept} {k : T (List RM)} (hk : k = mkKept m) (hm : chkRs tb rounds n m = true) : FnOk (tb.over t k) P w0 := by
 have hl := chk_ok hT h hl
 have hm := chkRs_ok hT h hm
 refine ⟨h.mixed,fun E hE => ⟨(h.syms E hE).eqs,(h.syms E hE).eqi,(h.syms E hE).bin,(h.syms E hE).conv,(h.syms E hE).key,(h.syms E hE).len,(h.syms E hE).cut,(h.syms E hE).adr⟩,h.glob,h.ld,h.enter,h.ext,fun f args v hp => ?_,fun f es hes => ?_⟩
 ·replace hp : (match primOf t f args with | some v => some v | none => tb.prim f args) = some v := hp
  split at hp
  ·rename_i u hu
   cases hp
   unfold primOf at hu
   subst ht
   split at hu
   ·rename_i r hr
    exact hl _ (mkMemo_mem hr) _ (look_mem hu)
   ·cases hu
  ·exact h.prim f args v hp
 ·replace hes : (match k.get f with | none => tb.rm f | some es => match tb.rm f with | none => some es | some fs => some (es ++ fs)) = some es := hes
  subst hk
  split at hes
  ·exact h.rm f es hes
  ·rename_i e1 h1
   split at hes
   ·cases hes
    exact hm _ (mkKept_mem h1)
   ·rename_i e2 h2
    cases hes
    intro e he
    rcases List.mem_append.1 he with he | he
    ·exact hm _ (mkKept_mem h1) e he
    ·exact h.rm f e2 h2 e he
end
end Ev
