/-
  The abstract evaluator: kept calls, level over level.
-/
import Derived.Test.YtkjinnjopoehhaaGreatDoorEvMemo
import Derived.Test.YtkjinnjopoehhaaGreatDoorProg
import Derived.Laws.StandIn
set_option linter.unusedSectionVars false
set_option linter.unusedVariables false
set_option linter.unusedSimpArgs false
namespace Go.Proofs.YtkjinnjopoehhaaGreatDoor
open Go Ev
open Tryz
def Lf {α:Type} (x:α):T α:=.n .e (some x) .e
set_option maxRecDepth 100000
noncomputable def fl:List Func:=[f0,f1,f2,f3,f4,f5,f6,f7,f8,f9,f10,f11,f12,f13,f14,f15,f16,f17,f18,f19,f20,f21,f22,f23,f24,f25,f26,f27,f28,f29,f30,f31,f32,f33,f34,f35,f36,f37,f38,f39,f40,f41,f42,f43,f44,f45,f46,f47,f48,f49,f50,f51,f52,f53,f54,f55,f56,f57,f58,f59,f60,f61,f62,f63,f64,f65,f66,f67,f68,f69,f70,f71,f72,f73,f74,f75,f76,f77,f78,f79,f80,f81,f82,f83,f84,f85,f86,f87,f88,f89,f90,f91,f92,f93,f94,f95,f96,f97,f98,f99,f100,f101,f102,f103,f104,f105,f106,f107,f108,f109,f110,f111,f112,f113,f114,f115,f116,f117,f118,f119,f120,f121,f122,f123,f124,f125,f126,f127,f128,f129,f130,f131,f132,f133,f134,f135,f136,f137,f138,f139,f140,f141,f142,f143,f144,f145,f146,f147,f148,f149,f150,f151,f152,f153,f154,f155,f156,f157,f158,f159,f160,f161,f162,f163,f164,f165,f166,f167,f168,f169,f170,f171,f172,f173,f174,f175,f176,f177,f178,f179,f180,f181,f182,f183,f184,f185,f186,f187,f188,f189,f190,f191,f192,f193,f194,f195,f196,f197,f198,f199,f200,f201,f202,f203,f204,f205,f206,f207,f208,f209,f210,f211,f212,f213,f214,f215,f216,f217,f218,f219,f220,f221,f222,f223,f224,f225,f226,f227,f228,f229,f230,f231,f232,f233,f234,f235,f236,f237,f238,f239,f240,f241,f242,f243,f244,f245,f246,f247,f248,f249,f250,f251,f252,f253,f254,f255,f256,f257,f258,f259,f260,f261,f262,f263,f264,f265,f266,f267,f268,f269,f270,f271,f272,f273,f274,f275,f276,f277,f278,f279,f280,f281,f282,f283,f284,f285,f286,f287,f288,f289,f290,f291,f292,f293,f294,f295,f296,f297,f298,f299,f300,f301,f302,f303,f304,f305,f306,f307,f308,f309,f310,f311,f312,f313,f314,f315,f316,f317,f318,f319,f320,f321,f322,f323,f324,f325,f326,f327,f328,f329,f330,f331,f332,f333,f334,f335,f336,f337,f338,f339,f340,f341,f342,f343,f344,f345,f346,f347,f348,f349,f350,f351,f352,f353,f354,f355,f356,f357,f358,f359,f360,f361,f362,f363,f364,f365,f366,f367,f368,f369,f370,f371,f372,f373,f374,f375,f376,f377,f378,f379,f380,f381,f382,f383,f384,f385,f386,f387,f388,f389,f390,f391,f392,f393,f394,f395,f396,f397,f398,f399,f400,f401,f402,f403,f404,f405,f406,f407,f408,f409,f410,f411,f412,f413,f414,f415,f416,f417,f418,f419,f420,f421,f422,f423,f424,f425,f426,f427,f428,f429,f430,f431,f432,f433,f434,f435,f436,f437,f438,f439,f440,f441,f442,f443,f444,f445,f446,f447,f448,f449,f450,f451,f452,f453,f454,f455,f456,f457,f458,f459,f460,f461,f462,f463,f464,f465,f466,f467,f468,f469,f470,f471,f472,f473,f474,f475,f476,f477,f478,f479,f480,f481,f482,f483,f484,f485,f486,f487,f488,f489,f490,f491,f492,f493,f494,f495,f496,f497,f498,f499,f500,f501,f502,f503,f504,f505,f506,f507,f508,f509,f510,f511,f512,f513,f514,f515,f516,f517,f518,f519,f520,f521,f522,f523,f524,f525,f526,f527,f528,f529,f530,f531,f532,f533,f534,f535,f536,f537,f538,f539,f540,f541,f542,f543,f544,f545,f546,f547,f548,f549,f550,f551,f552,f553,f554,f555,f556,f557,f558,f559,f560,f561,f562,f563,f564,f565,f566,f567,f568,f569,f570,f571,f572,f573,f574,f575,f576,f577,f578,f579,f580,f581,f582,f583,f584,f585,f586,f587,f588,f589,f590,f591,f592,f593,f594,f595,f596,f597,f598,f599,f600,f601,f602,f603,f604,f605,f606,f607,f608,f609,f610,f611,f612,f613,f614,f615,f616,f617,f618,f619,f620,f621,f622,f623,f624,f625,f626,f627,f628,f629,f630,f631,f632,f633,f634,f635,f636,f637,f638,f639,f640,f641,f642,f643,f644,f645,f646,f647,f648,f649,f650,f651,f652,f653,f654,f655,f656,f657,f658,f659,f660,f661]
noncomputable def tl:List TypeInfo:=[t0,t1,t2,t3,t4,t5,t6,t7,t8,t9,t10,t11,t12,t13,t14,t15,t16,t17,t18,t19,t20,t21,t22,t23,t24,t25,t26,t27,t28,t29,t30,t31,t32,t33,t34,t35,t36,t37,t38,t39,t40,t41,t42,t43,t44,t45,t46,t47,t48,t49,t50,t51,t52,t53,t54,t55,t56,t57,t58,t59,t60,t61,t62,t63,t64,t65,t66,t67,t68,t69,t70,t71,t72,t73,t74,t75,t76,t77,t78,t79,t80,t81,t82,t83,t84,t85,t86,t87,t88,t89,t90,t91,t92,t93,t94,t95,t96,t97,t98,t99,t100,t101,t102,t103,t104,t105,t106,t107,t108,t109,t110,t111,t112,t113,t114,t115,t116,t117,t118,t119,t120,t121,t122,t123,t124,t125,t126,t127,t128,t129,t130,t131,t132,t133,t134,t135,t136,t137,t138,t139,t140,t141,t142,t143,t144,t145,t146,t147,t148,t149,t150,t151,t152,t153,t154,t155,t156,t157,t158,t159,t160,t161,t162,t163,t164,t165,t166,t167,t168,t169,t170,t171,t172,t173,t174,t175,t176,t177,t178,t179,t180,t181,t182,t183,t184,t185,t186,t187,t188,t189,t190,t191,t192,t193,t194,t195,t196,t197,t198,t199,t200,t201,t202,t203,t204,t205,t206,t207,t208,t209,t210,t211,t212,t213,t214,t215,t216,t217,t218,t219,t220,t221,t222,t223,t224,t225,t226,t227,t228,t229,t230,t231,t232,t233,t234,t235,t236,t237,t238,t239,t240,t241,t242,t243,t244,t245,t246,t247,t248,t249,t250,t251,t252,t253,t254,t255,t256,t257,t258,t259,t260,t261,t262,t263,t264,t265,t266,t267,t268,t269,t270,t271,t272,t273,t274,t275,t276,t277,t278,t279,t280,t281,t282,t283,t284,t285,t286,t287,t288,t289,t290,t291,t292,t293,t294,t295,t296,t297,t298,t299,t300,t301,t302,t303,t304,t305,t306,t307,t308,t309,t310,t311,t312,t313,t314,t315,t316,t317,t318,t319,t320,t321,t322,t323,t324,t325,t326,t327,t328,t329,t330,t331,t332,t333,t334,t335,t336,t337,t338,t339,t340,t341,t342,t343,t344,t345,t346,t347,t348,t349,t350,t351,t352,t353,t354,t355,t356,t357,t358,t359,t360,t361,t362,t363,t364,t365,t366,t367,t368,t369,t370,t371,t372,t373,t374,t375,t376,t377,t378,t379,t380,t381,t382,t383,t384,t385,t386,t387,t388,t389,t390,t391,t392,t393,t394,t395,t396,t397,t398,t399,t400,t401,t402,t403,t404,t405,t406,t407,t408,t409,t410,t411,t412,t413,t414,t415,t416,t417,t418,t419,t420,t421,t422,t423,t424,t425,t426,t427,t428,t429,t430,t431,t432,t433,t434,t435,t436,t437,t438,t439,t440,t441,t442,t443,t444,t445,t446,t447,t448,t449,t450,t451,t452,t453,t454,t455,t456,t457,t458,t459,t460,t461,t462,t463,t464,t465,t466,t467,t468,t469,t470,t471,t472,t473,t474,t475,t476,t477,t478,t479,t480,t481,t482,t483,t484,t485,t486,t487,t488,t489,t490,t491,t492,t493,t494,t495,t496,t497,t498,t499,t500,t501,t502,t503,t504,t505,t506,t507,t508,t509,t510,t511,t512,t513,t514,t515,t516,t517,t518,t519,t520,t521,t522,t523,t524,t525,t526,t527,t528,t529,t530,t531,t532,t533,t534,t535,t536,t537,t538,t539,t540,t541,t542,t543,t544,t545,t546,t547,t548,t549,t550,t551,t552,t553,t554,t555,t556,t557,t558,t559,t560,t561,t562,t563,t564,t565,t566,t567,t568,t569,t570,t571,t572,t573,t574,t575,t576,t577,t578,t579,t580,t581,t582,t583,t584,t585,t586,t587,t588,t589,t590,t591,t592,t593,t594,t595,t596,t597,t598,t599,t600,t601,t602,t603,t604,t605,t606,t607,t608,t609,t610,t611,t612,t613,t614,t615,t616,t617,t618,t619,t620,t621,t622,t623,t624,t625,t626,t627,t628,t629,t630,t631,t632,t633,t634,t635,t636,t637,t638,t639,t640,t641,t642,t643,t644,t645,t646,t647,t648,t649,t650,t651,t652,t653,t654,t655,t656,t657,t658,t659,t660,t661,t662,t663,t664,t665,t666,t667,t668,t669,t670,t671,t672,t673,t674,t675,t676,t677,t678,t679,t680,t681,t682,t683,t684,t685,t686,t687,t688,t689,t690,t691,t692,t693,t694,t695,t696,t697,t698,t699,t700,t701,t702,t703,t704,t705,t706,t707,t708,t709,t710,t711,t712,t713,t714,t715,t716,t717,t718,t719,t720,t721,t722,t723,t724,t725,t726]
noncomputable def fnT:T Func:=(.n (.n (.n (.n (.n (.n (.n (.n (.n (Lf f511) (some f255) .e) (some f127) (.n (Lf f639) (some f383) .e)) (some f63) (.n (.n (Lf f575) (some f319) .e) (some f191) (Lf f447))) (some f31) (.n (.n (.n (Lf f543) (some f287) .e) (some f159) (Lf f415)) (some f95) (.n (.n (Lf f607) (some f351) .e) (some f223) (Lf f479)))) (some f15) (.n (.n (.n (.n (Lf f527) (some f271) .e) (some f143) (.n (Lf f655) (some f399) .e)) (some f79) (.n (.n (Lf f591) (some f335) .e) (some f207) (Lf f463))) (some f47) (.n (.n (.n (Lf f559) (some f303) .e) (some f175) (Lf f431)) (some f111) (.n (.n (Lf f623) (some f367) .e) (some f239) (Lf f495))))) (some f7) (.n (.n (.n (.n (.n (Lf f519) (some f263) .e) (some f135) (.n (Lf f647) (some f391) .e)) (some f71) (.n (.n (Lf f583) (some f327) .e) (some f199) (Lf f455))) (some f39) (.n (.n (.n (Lf f551) (some f295) .e) (some f167) (Lf f423)) (some f103) (.n (.n (Lf f615) (some f359) .e) (some f231) (Lf f487)))) (some f23) (.n (.n (.n (.n (Lf f535) (some f279) .e) (some f151) (Lf f407)) (some f87) (.n (.n (Lf f599) (some f343) .e) (some f215) (Lf f471))) (some f55) (.n (.n (.n (Lf f567) (some f311) .e) (some f183) (Lf f439)) (some f119) (.n (.n (Lf f631) (some f375) .e) (some f247) (Lf f503)))))) (some f3) (.n (.n (.n (.n (.n (.n (Lf f515) (some f259) .e) (some f131) (.n (Lf f643) (some f387) .e)) (some f67) (.n (.n (Lf f579) (some f323) .e) (some f195) (Lf f451))) (some f35) (.n (.n (.n (Lf f547) (some f291) .e) (some f163) (Lf f419)) (some f99) (.n (.n (Lf f611) (some f355) .e) (some f227) (Lf f483)))) (some f19) (.n (.n (.n (.n (Lf f531) (some f275) .e) (some f147) (.n (Lf f659) (some f403) .e)) (some f83) (.n (.n (Lf f595) (some f339) .e) (some f211) (Lf f467))) (some f51) (.n (.n (.n (Lf f563) (some f307) .e) (some f179) (Lf f435)) (some f115) (.n (.n (Lf f627) (some f371) .e) (some f243) (Lf f499))))) (some f11) (.n (.n (.n (.n (.n (Lf f523) (some f267) .e) (some f139) (.n (Lf f651) (some f395) .e)) (some f75) (.n (.n (Lf f587) (some f331) .e) (some f203) (Lf f459))) (some f43) (.n (.n (.n (Lf f555) (some f299) .e) (some f171) (Lf f427)) (some f107) (.n (.n (Lf f619) (some f363) .e) (some f235) (Lf f491)))) (some f27) (.n (.n (.n (.n (Lf f539) (some f283) .e) (some f155) (Lf f411)) (some f91) (.n (.n (Lf f603) (some f347) .e) (some f219) (Lf f475))) (some f59) (.n (.n (.n (Lf f571) (some f315) .e) (some f187) (Lf f443)) (some f123) (.n (.n (Lf f635) (some f379) .e) (some f251) (Lf f507))))))) (some f1) (.n (.n (.n (.n (.n (.n (.n (Lf f513) (some f257) .e) (some f129) (.n (Lf f641) (some f385) .e)) (some f65) (.n (.n (Lf f577) (some f321) .e) (some f193) (Lf f449))) (some f33) (.n (.n (.n (Lf f545) (some f289) .e) (some f161) (Lf f417)) (some f97) (.n (.n (Lf f609) (some f353) .e) (some f225) (Lf f481)))) (some f17) (.n (.n (.n (.n (Lf f529) (some f273) .e) (some f145) (.n (Lf f657) (some f401) .e)) (some f81) (.n (.n (Lf f593) (some f337) .e) (some f209) (Lf f465))) (some f49) (.n (.n (.n (Lf f561) (some f305) .e) (some f177) (Lf f433)) (some f113) (.n (.n (Lf f625) (some f369) .e) (some f241) (Lf f497))))) (some f9) (.n (.n (.n (.n (.n (Lf f521) (some f265) .e) (some f137) (.n (Lf f649) (some f393) .e)) (some f73) (.n (.n (Lf f585) (some f329) .e) (some f201) (Lf f457))) (some f41) (.n (.n (.n (Lf f553) (some f297) .e) (some f169) (Lf f425)) (some f105) (.n (.n (Lf f617) (some f361) .e) (some f233) (Lf f489)))) (some f25) (.n (.n (.n (.n (Lf f537) (some f281) .e) (some f153) (Lf f409)) (some f89) (.n (.n (Lf f601) (some f345) .e) (some f217) (Lf f473))) (some f57) (.n (.n (.n (Lf f569) (some f313) .e) (some f185) (Lf f441)) (some f121) (.n (.n (Lf f633) (some f377) .e) (some f249) (Lf f505)))))) (some f5) (.n (.n (.n (.n (.n (.n (Lf f517) (some f261) .e) (some f133) (.n (Lf f645) (some f389) .e)) (some f69) (.n (.n (Lf f581) (some f325) .e) (some f197) (Lf f453))) (some f37) (.n (.n (.n (Lf f549) (some f293) .e) (some f165) (Lf f421)) (some f101) (.n (.n (Lf f613) (some f357) .e) (some f229) (Lf f485)))) (some f21) (.n (.n (.n (.n (Lf f533) (some f277) .e) (some f149) (.n (Lf f661) (some f405) .e)) (some f85) (.n (.n (Lf f597) (some f341) .e) (some f213) (Lf f469))) (some f53) (.n (.n (.n (Lf f565) (some f309) .e) (some f181) (Lf f437)) (some f117) (.n (.n (Lf f629) (some f373) .e) (some f245) (Lf f501))))) (some f13) (.n (.n (.n (.n (.n (Lf f525) (some f269) .e) (some f141) (.n (Lf f653) (some f397) .e)) (some f77) (.n (.n (Lf f589) (some f333) .e) (some f205) (Lf f461))) (some f45) (.n (.n (.n (Lf f557) (some f301) .e) (some f173) (Lf f429)) (some f109) (.n (.n (Lf f621) (some f365) .e) (some f237) (Lf f493)))) (some f29) (.n (.n (.n (.n (Lf f541) (some f285) .e) (some f157) (Lf f413)) (some f93) (.n (.n (Lf f605) (some f349) .e) (some f221) (Lf f477))) (some f61) (.n (.n (.n (Lf f573) (some f317) .e) (some f189) (Lf f445)) (some f125) (.n (.n (Lf f637) (some f381) .e) (some f253) (Lf f509)))))))) (some f0) (.n (.n (.n (.n (.n (.n (.n (.n (Lf f512) (some f256) .e) (some f128) (.n (Lf f640) (some f384) .e)) (some f64) (.n (.n (Lf f576) (some f320) .e) (some f192) (Lf f448))) (some f32) (.n (.n (.n (Lf f544) (some f288) .e) (some f160) (Lf f416)) (some f96) (.n (.n (Lf f608) (some f352) .e) (some f224) (Lf f480)))) (some f16) (.n (.n (.n (.n (Lf f528) (some f272) .e) (some f144) (.n (Lf f656) (some f400) .e)) (some f80) (.n (.n (Lf f592) (some f336) .e) (some f208) (Lf f464))) (some f48) (.n (.n (.n (Lf f560) (some f304) .e) (some f176) (Lf f432)) (some f112) (.n (.n (Lf f624) (some f368) .e) (some f240) (Lf f496))))) (some f8) (.n (.n (.n (.n (.n (Lf f520) (some f264) .e) (some f136) (.n (Lf f648) (some f392) .e)) (some f72) (.n (.n (Lf f584) (some f328) .e) (some f200) (Lf f456))) (some f40) (.n (.n (.n (Lf f552) (some f296) .e) (some f168) (Lf f424)) (some f104) (.n (.n (Lf f616) (some f360) .e) (some f232) (Lf f488)))) (some f24) (.n (.n (.n (.n (Lf f536) (some f280) .e) (some f152) (Lf f408)) (some f88) (.n (.n (Lf f600) (some f344) .e) (some f216) (Lf f472))) (some f56) (.n (.n (.n (Lf f568) (some f312) .e) (some f184) (Lf f440)) (some f120) (.n (.n (Lf f632) (some f376) .e) (some f248) (Lf f504)))))) (some f4) (.n (.n (.n (.n (.n (.n (Lf f516) (some f260) .e) (some f132) (.n (Lf f644) (some f388) .e)) (some f68) (.n (.n (Lf f580) (some f324) .e) (some f196) (Lf f452))) (some f36) (.n (.n (.n (Lf f548) (some f292) .e) (some f164) (Lf f420)) (some f100) (.n (.n (Lf f612) (some f356) .e) (some f228) (Lf f484)))) (some f20) (.n (.n (.n (.n (Lf f532) (some f276) .e) (some f148) (.n (Lf f660) (some f404) .e)) (some f84) (.n (.n (Lf f596) (some f340) .e) (some f212) (Lf f468))) (some f52) (.n (.n (.n (Lf f564) (some f308) .e) (some f180) (Lf f436)) (some f116) (.n (.n (Lf f628) (some f372) .e) (some f244) (Lf f500))))) (some f12) (.n (.n (.n (.n (.n (Lf f524) (some f268) .e) (some f140) (.n (Lf f652) (some f396) .e)) (some f76) (.n (.n (Lf f588) (some f332) .e) (some f204) (Lf f460))) (some f44) (.n (.n (.n (Lf f556) (some f300) .e) (some f172) (Lf f428)) (some f108) (.n (.n (Lf f620) (some f364) .e) (some f236) (Lf f492)))) (some f28) (.n (.n (.n (.n (Lf f540) (some f284) .e) (some f156) (Lf f412)) (some f92) (.n (.n (Lf f604) (some f348) .e) (some f220) (Lf f476))) (some f60) (.n (.n (.n (Lf f572) (some f316) .e) (some f188) (Lf f444)) (some f124) (.n (.n (Lf f636) (some f380) .e) (some f252) (Lf f508))))))) (some f2) (.n (.n (.n (.n (.n (.n (.n (Lf f514) (some f258) .e) (some f130) (.n (Lf f642) (some f386) .e)) (some f66) (.n (.n (Lf f578) (some f322) .e) (some f194) (Lf f450))) (some f34) (.n (.n (.n (Lf f546) (some f290) .e) (some f162) (Lf f418)) (some f98) (.n (.n (Lf f610) (some f354) .e) (some f226) (Lf f482)))) (some f18) (.n (.n (.n (.n (Lf f530) (some f274) .e) (some f146) (.n (Lf f658) (some f402) .e)) (some f82) (.n (.n (Lf f594) (some f338) .e) (some f210) (Lf f466))) (some f50) (.n (.n (.n (Lf f562) (some f306) .e) (some f178) (Lf f434)) (some f114) (.n (.n (Lf f626) (some f370) .e) (some f242) (Lf f498))))) (some f10) (.n (.n (.n (.n (.n (Lf f522) (some f266) .e) (some f138) (.n (Lf f650) (some f394) .e)) (some f74) (.n (.n (Lf f586) (some f330) .e) (some f202) (Lf f458))) (some f42) (.n (.n (.n (Lf f554) (some f298) .e) (some f170) (Lf f426)) (some f106) (.n (.n (Lf f618) (some f362) .e) (some f234) (Lf f490)))) (some f26) (.n (.n (.n (.n (Lf f538) (some f282) .e) (some f154) (Lf f410)) (some f90) (.n (.n (Lf f602) (some f346) .e) (some f218) (Lf f474))) (some f58) (.n (.n (.n (Lf f570) (some f314) .e) (some f186) (Lf f442)) (some f122) (.n (.n (Lf f634) (some f378) .e) (some f250) (Lf f506)))))) (some f6) (.n (.n (.n (.n (.n (.n (Lf f518) (some f262) .e) (some f134) (.n (Lf f646) (some f390) .e)) (some f70) (.n (.n (Lf f582) (some f326) .e) (some f198) (Lf f454))) (some f38) (.n (.n (.n (Lf f550) (some f294) .e) (some f166) (Lf f422)) (some f102) (.n (.n (Lf f614) (some f358) .e) (some f230) (Lf f486)))) (some f22) (.n (.n (.n (.n (Lf f534) (some f278) .e) (some f150) (Lf f406)) (some f86) (.n (.n (Lf f598) (some f342) .e) (some f214) (Lf f470))) (some f54) (.n (.n (.n (Lf f566) (some f310) .e) (some f182) (Lf f438)) (some f118) (.n (.n (Lf f630) (some f374) .e) (some f246) (Lf f502))))) (some f14) (.n (.n (.n (.n (.n (Lf f526) (some f270) .e) (some f142) (.n (Lf f654) (some f398) .e)) (some f78) (.n (.n (Lf f590) (some f334) .e) (some f206) (Lf f462))) (some f46) (.n (.n (.n (Lf f558) (some f302) .e) (some f174) (Lf f430)) (some f110) (.n (.n (Lf f622) (some f366) .e) (some f238) (Lf f494)))) (some f30) (.n (.n (.n (.n (Lf f542) (some f286) .e) (some f158) (Lf f414)) (some f94) (.n (.n (Lf f606) (some f350) .e) (some f222) (Lf f478))) (some f62) (.n (.n (.n (Lf f574) (some f318) .e) (some f190) (Lf f446)) (some f126) (.n (.n (Lf f638) (some f382) .e) (some f254) (Lf f510)))))))))
noncomputable def tyT:T TypeInfo:=(.n (.n (.n (.n (.n (.n (.n (.n (.n (Lf t511) (some t255) .e) (some t127) (.n (Lf t639) (some t383) .e)) (some t63) (.n (.n (Lf t575) (some t319) .e) (some t191) (.n (Lf t703) (some t447) .e))) (some t31) (.n (.n (.n (Lf t543) (some t287) .e) (some t159) (.n (Lf t671) (some t415) .e)) (some t95) (.n (.n (Lf t607) (some t351) .e) (some t223) (Lf t479)))) (some t15) (.n (.n (.n (.n (Lf t527) (some t271) .e) (some t143) (.n (Lf t655) (some t399) .e)) (some t79) (.n (.n (Lf t591) (some t335) .e) (some t207) (.n (Lf t719) (some t463) .e))) (some t47) (.n (.n (.n (Lf t559) (some t303) .e) (some t175) (.n (Lf t687) (some t431) .e)) (some t111) (.n (.n (Lf t623) (some t367) .e) (some t239) (Lf t495))))) (some t7) (.n (.n (.n (.n (.n (Lf t519) (some t263) .e) (some t135) (.n (Lf t647) (some t391) .e)) (some t71) (.n (.n (Lf t583) (some t327) .e) (some t199) (.n (Lf t711) (some t455) .e))) (some t39) (.n (.n (.n (Lf t551) (some t295) .e) (some t167) (.n (Lf t679) (some t423) .e)) (some t103) (.n (.n (Lf t615) (some t359) .e) (some t231) (Lf t487)))) (some t23) (.n (.n (.n (.n (Lf t535) (some t279) .e) (some t151) (.n (Lf t663) (some t407) .e)) (some t87) (.n (.n (Lf t599) (some t343) .e) (some t215) (Lf t471))) (some t55) (.n (.n (.n (Lf t567) (some t311) .e) (some t183) (.n (Lf t695) (some t439) .e)) (some t119) (.n (.n (Lf t631) (some t375) .e) (some t247) (Lf t503)))))) (some t3) (.n (.n (.n (.n (.n (.n (Lf t515) (some t259) .e) (some t131) (.n (Lf t643) (some t387) .e)) (some t67) (.n (.n (Lf t579) (some t323) .e) (some t195) (.n (Lf t707) (some t451) .e))) (some t35) (.n (.n (.n (Lf t547) (some t291) .e) (some t163) (.n (Lf t675) (some t419) .e)) (some t99) (.n (.n (Lf t611) (some t355) .e) (some t227) (Lf t483)))) (some t19) (.n (.n (.n (.n (Lf t531) (some t275) .e) (some t147) (.n (Lf t659) (some t403) .e)) (some t83) (.n (.n (Lf t595) (some t339) .e) (some t211) (.n (Lf t723) (some t467) .e))) (some t51) (.n (.n (.n (Lf t563) (some t307) .e) (some t179) (.n (Lf t691) (some t435) .e)) (some t115) (.n (.n (Lf t627) (some t371) .e) (some t243) (Lf t499))))) (some t11) (.n (.n (.n (.n (.n (Lf t523) (some t267) .e) (some t139) (.n (Lf t651) (some t395) .e)) (some t75) (.n (.n (Lf t587) (some t331) .e) (some t203) (.n (Lf t715) (some t459) .e))) (some t43) (.n (.n (.n (Lf t555) (some t299) .e) (some t171) (.n (Lf t683) (some t427) .e)) (some t107) (.n (.n (Lf t619) (some t363) .e) (some t235) (Lf t491)))) (some t27) (.n (.n (.n (.n (Lf t539) (some t283) .e) (some t155) (.n (Lf t667) (some t411) .e)) (some t91) (.n (.n (Lf t603) (some t347) .e) (some t219) (Lf t475))) (some t59) (.n (.n (.n (Lf t571) (some t315) .e) (some t187) (.n (Lf t699) (some t443) .e)) (some t123) (.n (.n (Lf t635) (some t379) .e) (some t251) (Lf t507))))))) (some t1) (.n (.n (.n (.n (.n (.n (.n (Lf t513) (some t257) .e) (some t129) (.n (Lf t641) (some t385) .e)) (some t65) (.n (.n (Lf t577) (some t321) .e) (some t193) (.n (Lf t705) (some t449) .e))) (some t33) (.n (.n (.n (Lf t545) (some t289) .e) (some t161) (.n (Lf t673) (some t417) .e)) (some t97) (.n (.n (Lf t609) (some t353) .e) (some t225) (Lf t481)))) (some t17) (.n (.n (.n (.n (Lf t529) (some t273) .e) (some t145) (.n (Lf t657) (some t401) .e)) (some t81) (.n (.n (Lf t593) (some t337) .e) (some t209) (.n (Lf t721) (some t465) .e))) (some t49) (.n (.n (.n (Lf t561) (some t305) .e) (some t177) (.n (Lf t689) (some t433) .e)) (some t113) (.n (.n (Lf t625) (some t369) .e) (some t241) (Lf t497))))) (some t9) (.n (.n (.n (.n (.n (Lf t521) (some t265) .e) (some t137) (.n (Lf t649) (some t393) .e)) (some t73) (.n (.n (Lf t585) (some t329) .e) (some t201) (.n (Lf t713) (some t457) .e))) (some t41) (.n (.n (.n (Lf t553) (some t297) .e) (some t169) (.n (Lf t681) (some t425) .e)) (some t105) (.n (.n (Lf t617) (some t361) .e) (some t233) (Lf t489)))) (some t25) (.n (.n (.n (.n (Lf t537) (some t281) .e) (some t153) (.n (Lf t665) (some t409) .e)) (some t89) (.n (.n (Lf t601) (some t345) .e) (some t217) (Lf t473))) (some t57) (.n (.n (.n (Lf t569) (some t313) .e) (some t185) (.n (Lf t697) (some t441) .e)) (some t121) (.n (.n (Lf t633) (some t377) .e) (some t249) (Lf t505)))))) (some t5) (.n (.n (.n (.n (.n (.n (Lf t517) (some t261) .e) (some t133) (.n (Lf t645) (some t389) .e)) (some t69) (.n (.n (Lf t581) (some t325) .e) (some t197) (.n (Lf t709) (some t453) .e))) (some t37) (.n (.n (.n (Lf t549) (some t293) .e) (some t165) (.n (Lf t677) (some t421) .e)) (some t101) (.n (.n (Lf t613) (some t357) .e) (some t229) (Lf t485)))) (some t21) (.n (.n (.n (.n (Lf t533) (some t277) .e) (some t149) (.n (Lf t661) (some t405) .e)) (some t85) (.n (.n (Lf t597) (some t341) .e) (some t213) (.n (Lf t725) (some t469) .e))) (some t53) (.n (.n (.n (Lf t565) (some t309) .e) (some t181) (.n (Lf t693) (some t437) .e)) (some t117) (.n (.n (Lf t629) (some t373) .e) (some t245) (Lf t501))))) (some t13) (.n (.n (.n (.n (.n (Lf t525) (some t269) .e) (some t141) (.n (Lf t653) (some t397) .e)) (some t77) (.n (.n (Lf t589) (some t333) .e) (some t205) (.n (Lf t717) (some t461) .e))) (some t45) (.n (.n (.n (Lf t557) (some t301) .e) (some t173) (.n (Lf t685) (some t429) .e)) (some t109) (.n (.n (Lf t621) (some t365) .e) (some t237) (Lf t493)))) (some t29) (.n (.n (.n (.n (Lf t541) (some t285) .e) (some t157) (.n (Lf t669) (some t413) .e)) (some t93) (.n (.n (Lf t605) (some t349) .e) (some t221) (Lf t477))) (some t61) (.n (.n (.n (Lf t573) (some t317) .e) (some t189) (.n (Lf t701) (some t445) .e)) (some t125) (.n (.n (Lf t637) (some t381) .e) (some t253) (Lf t509)))))))) (some t0) (.n (.n (.n (.n (.n (.n (.n (.n (Lf t512) (some t256) .e) (some t128) (.n (Lf t640) (some t384) .e)) (some t64) (.n (.n (Lf t576) (some t320) .e) (some t192) (.n (Lf t704) (some t448) .e))) (some t32) (.n (.n (.n (Lf t544) (some t288) .e) (some t160) (.n (Lf t672) (some t416) .e)) (some t96) (.n (.n (Lf t608) (some t352) .e) (some t224) (Lf t480)))) (some t16) (.n (.n (.n (.n (Lf t528) (some t272) .e) (some t144) (.n (Lf t656) (some t400) .e)) (some t80) (.n (.n (Lf t592) (some t336) .e) (some t208) (.n (Lf t720) (some t464) .e))) (some t48) (.n (.n (.n (Lf t560) (some t304) .e) (some t176) (.n (Lf t688) (some t432) .e)) (some t112) (.n (.n (Lf t624) (some t368) .e) (some t240) (Lf t496))))) (some t8) (.n (.n (.n (.n (.n (Lf t520) (some t264) .e) (some t136) (.n (Lf t648) (some t392) .e)) (some t72) (.n (.n (Lf t584) (some t328) .e) (some t200) (.n (Lf t712) (some t456) .e))) (some t40) (.n (.n (.n (Lf t552) (some t296) .e) (some t168) (.n (Lf t680) (some t424) .e)) (some t104) (.n (.n (Lf t616) (some t360) .e) (some t232) (Lf t488)))) (some t24) (.n (.n (.n (.n (Lf t536) (some t280) .e) (some t152) (.n (Lf t664) (some t408) .e)) (some t88) (.n (.n (Lf t600) (some t344) .e) (some t216) (Lf t472))) (some t56) (.n (.n (.n (Lf t568) (some t312) .e) (some t184) (.n (Lf t696) (some t440) .e)) (some t120) (.n (.n (Lf t632) (some t376) .e) (some t248) (Lf t504)))))) (some t4) (.n (.n (.n (.n (.n (.n (Lf t516) (some t260) .e) (some t132) (.n (Lf t644) (some t388) .e)) (some t68) (.n (.n (Lf t580) (some t324) .e) (some t196) (.n (Lf t708) (some t452) .e))) (some t36) (.n (.n (.n (Lf t548) (some t292) .e) (some t164) (.n (Lf t676) (some t420) .e)) (some t100) (.n (.n (Lf t612) (some t356) .e) (some t228) (Lf t484)))) (some t20) (.n (.n (.n (.n (Lf t532) (some t276) .e) (some t148) (.n (Lf t660) (some t404) .e)) (some t84) (.n (.n (Lf t596) (some t340) .e) (some t212) (.n (Lf t724) (some t468) .e))) (some t52) (.n (.n (.n (Lf t564) (some t308) .e) (some t180) (.n (Lf t692) (some t436) .e)) (some t116) (.n (.n (Lf t628) (some t372) .e) (some t244) (Lf t500))))) (some t12) (.n (.n (.n (.n (.n (Lf t524) (some t268) .e) (some t140) (.n (Lf t652) (some t396) .e)) (some t76) (.n (.n (Lf t588) (some t332) .e) (some t204) (.n (Lf t716) (some t460) .e))) (some t44) (.n (.n (.n (Lf t556) (some t300) .e) (some t172) (.n (Lf t684) (some t428) .e)) (some t108) (.n (.n (Lf t620) (some t364) .e) (some t236) (Lf t492)))) (some t28) (.n (.n (.n (.n (Lf t540) (some t284) .e) (some t156) (.n (Lf t668) (some t412) .e)) (some t92) (.n (.n (Lf t604) (some t348) .e) (some t220) (Lf t476))) (some t60) (.n (.n (.n (Lf t572) (some t316) .e) (some t188) (.n (Lf t700) (some t444) .e)) (some t124) (.n (.n (Lf t636) (some t380) .e) (some t252) (Lf t508))))))) (some t2) (.n (.n (.n (.n (.n (.n (.n (Lf t514) (some t258) .e) (some t130) (.n (Lf t642) (some t386) .e)) (some t66) (.n (.n (Lf t578) (some t322) .e) (some t194) (.n (Lf t706) (some t450) .e))) (some t34) (.n (.n (.n (Lf t546) (some t290) .e) (some t162) (.n (Lf t674) (some t418) .e)) (some t98) (.n (.n (Lf t610) (some t354) .e) (some t226) (Lf t482)))) (some t18) (.n (.n (.n (.n (Lf t530) (some t274) .e) (some t146) (.n (Lf t658) (some t402) .e)) (some t82) (.n (.n (Lf t594) (some t338) .e) (some t210) (.n (Lf t722) (some t466) .e))) (some t50) (.n (.n (.n (Lf t562) (some t306) .e) (some t178) (.n (Lf t690) (some t434) .e)) (some t114) (.n (.n (Lf t626) (some t370) .e) (some t242) (Lf t498))))) (some t10) (.n (.n (.n (.n (.n (Lf t522) (some t266) .e) (some t138) (.n (Lf t650) (some t394) .e)) (some t74) (.n (.n (Lf t586) (some t330) .e) (some t202) (.n (Lf t714) (some t458) .e))) (some t42) (.n (.n (.n (Lf t554) (some t298) .e) (some t170) (.n (Lf t682) (some t426) .e)) (some t106) (.n (.n (Lf t618) (some t362) .e) (some t234) (Lf t490)))) (some t26) (.n (.n (.n (.n (Lf t538) (some t282) .e) (some t154) (.n (Lf t666) (some t410) .e)) (some t90) (.n (.n (Lf t602) (some t346) .e) (some t218) (Lf t474))) (some t58) (.n (.n (.n (Lf t570) (some t314) .e) (some t186) (.n (Lf t698) (some t442) .e)) (some t122) (.n (.n (Lf t634) (some t378) .e) (some t250) (Lf t506)))))) (some t6) (.n (.n (.n (.n (.n (.n (Lf t518) (some t262) .e) (some t134) (.n (Lf t646) (some t390) .e)) (some t70) (.n (.n (Lf t582) (some t326) .e) (some t198) (.n (Lf t710) (some t454) .e))) (some t38) (.n (.n (.n (Lf t550) (some t294) .e) (some t166) (.n (Lf t678) (some t422) .e)) (some t102) (.n (.n (Lf t614) (some t358) .e) (some t230) (Lf t486)))) (some t22) (.n (.n (.n (.n (Lf t534) (some t278) .e) (some t150) (.n (Lf t662) (some t406) .e)) (some t86) (.n (.n (Lf t598) (some t342) .e) (some t214) (.n (Lf t726) (some t470) .e))) (some t54) (.n (.n (.n (Lf t566) (some t310) .e) (some t182) (.n (Lf t694) (some t438) .e)) (some t118) (.n (.n (Lf t630) (some t374) .e) (some t246) (Lf t502))))) (some t14) (.n (.n (.n (.n (.n (Lf t526) (some t270) .e) (some t142) (.n (Lf t654) (some t398) .e)) (some t78) (.n (.n (Lf t590) (some t334) .e) (some t206) (.n (Lf t718) (some t462) .e))) (some t46) (.n (.n (.n (Lf t558) (some t302) .e) (some t174) (.n (Lf t686) (some t430) .e)) (some t110) (.n (.n (Lf t622) (some t366) .e) (some t238) (Lf t494)))) (some t30) (.n (.n (.n (.n (Lf t542) (some t286) .e) (some t158) (.n (Lf t670) (some t414) .e)) (some t94) (.n (.n (Lf t606) (some t350) .e) (some t222) (Lf t478))) (some t62) (.n (.n (.n (Lf t574) (some t318) .e) (some t190) (.n (Lf t702) (some t446) .e)) (some t126) (.n (.n (Lf t638) (some t382) .e) (some t254) (Lf t510)))))))))
theorem funcs_eq:Tryz.prog.funcs=fl.toArray:=by kernel_rfl
theorem types_eq:Tryz.prog.types=tl.toArray:=by kernel_rfl
theorem fnT_eq:fnT=T.ofList .e 0 fl:=by kernel_rfl
theorem tyT_eq:tyT=T.ofList .e 0 tl:=by kernel_rfl
noncomputable def und (t:Nat):Option TypeDesc:=
 match tyT.get t with
 | some i=>match i.desc with
  | .named _ u=>(tyT.get u).map (·.desc)
  | d=>some d
 | none=>none
def goodL:List Nat:=[7,8,13,14,18,19,23,24,25,27,28,29,30,31,32,33,38,39,41,42,46,47,54,55,59,60,65,66,80,81,82,83,84,85,87,88,89,90,91,92,93,94,95,105,106,113,114,115,116,125,126,157,158,160,164,165,180,181,191,192,207,208,221,222,259,260,262,263,268,269,273,274,287,291,316,332,333,346,347,354,355,357,358,376,385,387,400,401,412,413,421,422,443,444,445,446,449,450,455,456,462,463,470,471,473,474,475,480,481,486,487,499,500,502,503,504,505,506,527,528,535,536,537,637,645,663,713,714,715,716,717,724,725]
def heldL:List Nat:=[7,8,24,25,27,28,30,31,32,33,38,39,41,42,46,47,54,55,59,60,65,66,80,81,82,83,84,85,87,88,89,90,92,93,94,95,105,106,115,116,125,126,157,158,164,165,191,192,207,208,221,222,259,260,262,263,268,269,273,274,332,333,346,347,354,355,357,358,400,401,412,413,421,422,440,441,444,445,449,450,462,463,470,471,474,475,480,481,486,487,502,503,504,505,527,528]
def goodT:T Unit:=(.n (.n (.n (.n (.n (.n (.n .e none (Lf ())) (some ()) (.n (.n (Lf ()) none .e) (some ()) .e)) none (.n (.n (.n (.n (Lf ()) none .e) none .e) none (.n .e (some ()) (Lf ()))) (some ()) .e)) (some ()) (.n (.n (.n (.n (Lf ()) none .e) none (.n .e none (Lf ()))) (some ()) (.n .e none (.n .e none (Lf ())))) (some ()) (.n (.n (.n (.n (Lf ()) none .e) none (.n (Lf ()) none .e)) (some ()) (.n .e none (Lf ()))) (some ()) (.n .e none (.n .e none (Lf ())))))) none (.n (.n (.n (.n (.n (Lf ()) none (Lf ())) none .e) none (.n (.n (Lf ()) none .e) none (.n (Lf ()) none .e))) (some ()) (.n (Lf ()) none (.n .e (some ()) (.n .e none (Lf ()))))) none (.n (.n (.n .e none (.n .e none (.n (Lf ()) none .e))) none .e) (some ()) (.n (.n .e (some ()) (.n (Lf ()) none (Lf ()))) (some ()) (.n (.n .e none (Lf ())) none .e))))) none (.n (.n (.n (.n (.n (.n .e none (Lf ())) (some ()) (.n .e none (Lf ()))) (some ()) (.n .e none (.n .e none (Lf ())))) none (.n (.n (.n (Lf ()) none (Lf ())) (some ()) .e) none (Lf ()))) none (.n (.n (.n .e none (.n .e none (.n (Lf ()) none .e))) (some ()) (Lf ())) (some ()) (.n (.n (.n (.n (Lf ()) none .e) none .e) (some ()) (.n .e none (Lf ()))) none (.n .e none (.n .e none (Lf ())))))) none (.n (.n (.n (.n (.n .e none (.n (Lf ()) none .e)) none .e) none (.n (.n .e (some ()) (Lf ())) none (.n (Lf ()) none .e))) none (.n (.n .e (some ()) (.n .e none (.n (Lf ()) none .e))) none (.n (Lf ()) none .e))) (some ()) (.n (.n (.n (.n (Lf ()) none .e) none (.n (Lf ()) none (.n (Lf ()) none .e))) none .e) (some ()) (.n (.n (.n .e (some ()) (Lf ())) (some ()) (Lf ())) none (.n (.n .e none (Lf ())) (some ()) (.n (.n (Lf ()) none .e) none .e))))))) none (.n (.n (.n (.n (.n (.n .e none (Lf ())) (some ()) (.n (Lf ()) none (.n .e none (Lf ())))) none (.n (.n (.n (.n (Lf ()) none .e) none (Lf ())) (some ()) (Lf ())) none .e)) (some ()) (.n (.n (.n .e none (.n .e none (Lf ()))) none .e) (some ()) (.n (.n (.n (.n (Lf ()) none .e) none .e) (some ()) .e) none (.n .e none (.n (Lf ()) none (Lf ())))))) none (.n (.n (.n (.n (.n (Lf ()) none .e) none .e) none (.n (Lf ()) none .e)) none (.n (.n .e (some ()) (.n .e none (.n (Lf ()) none .e))) none (.n (Lf ()) (some ()) (.n .e none (Lf ()))))) none (.n (.n (.n (.n (Lf ()) none .e) none (.n (Lf ()) none (.n (Lf ()) none .e))) none .e) (some ()) (.n (.n (.n .e none (Lf ())) (some ()) .e) (some ()) (.n (.n (Lf ()) none (Lf ())) none .e))))) none (.n (.n (.n (.n (.n .e (some ()) (.n .e none (Lf ()))) none (.n .e none (.n (Lf ()) none .e))) (some ()) (.n (.n (.n (Lf ()) none .e) (some ()) .e) none (Lf ()))) none (.n (.n (.n .e none (.n .e none (.n (Lf ()) none .e))) (some ()) (Lf ())) none (.n (.n .e (some ()) (.n (Lf ()) none (Lf ()))) none (.n .e none (.n .e none (Lf ())))))) none (.n (.n (.n (.n (.n (Lf ()) none .e) none .e) (some ()) (.n (.n .e none (Lf ())) none (.n (Lf ()) none (Lf ())))) none (.n (.n .e none (.n .e none (Lf ()))) (some ()) (.n .e none (.n .e none (Lf ()))))) (some ()) (.n (.n (.n .e none (.n .e none (Lf ()))) (some ()) .e) (some ()) (.n (.n (Lf ()) (some ()) (Lf ())) none (.n (.n .e none (Lf ())) (some ()) .e)))))))
def heldT:T Unit:=(.n (.n (.n (.n (.n (.n (.n .e none (Lf ())) (some ()) (Lf ())) none (.n (.n (.n (.n (Lf ()) none .e) none .e) none (.n .e (some ()) (Lf ()))) (some ()) .e)) (some ()) (.n (.n (.n (.n (Lf ()) none .e) none .e) (some ()) (.n .e none (.n .e none (Lf ())))) none (.n (.n .e (some ()) (.n .e none (Lf ()))) (some ()) (.n .e none (.n .e none (Lf ())))))) none (.n (.n (.n (.n (.n (Lf ()) none .e) none .e) none (.n .e none (.n (Lf ()) none .e))) none (.n (Lf ()) none (Lf ()))) none (.n .e (some ()) (.n (.n .e none (.n (Lf ()) none (Lf ()))) (some ()) .e)))) none (.n (.n (.n (.n (.n .e (some ()) (.n .e none (Lf ()))) (some ()) (.n .e none (.n .e none (Lf ())))) none (.n (.n (.n (Lf ()) none (Lf ())) (some ()) .e) none .e)) none (.n (.n .e (some ()) (Lf ())) (some ()) (.n (Lf ()) none (.n (.n .e none (Lf ())) none (.n .e none (Lf ())))))) none (.n (.n (.n .e none (.n (.n .e (some ()) (Lf ())) none (.n (Lf ()) none .e))) none (.n (Lf ()) none .e)) none (.n (.n (.n (.n (Lf ()) none .e) none (.n (Lf ()) none .e)) none .e) none (.n (.n (.n .e (some ()) (Lf ())) (some ()) (Lf ())) none (.n (.n .e none (Lf ())) (some ()) .e)))))) none (.n (.n (.n (.n (.n (.n .e none (Lf ())) (some ()) (.n .e none (.n .e none (Lf ())))) none (.n (.n (.n (.n (Lf ()) none .e) none (Lf ())) (some ()) (Lf ())) none .e)) (some ()) (.n .e (some ()) (.n (Lf ()) none (.n (.n .e none (Lf ())) none (.n .e none (Lf ())))))) none (.n (.n (.n (.n (.n (Lf ()) none .e) none .e) none (.n (Lf ()) none .e)) none (.n (Lf ()) none (Lf ()))) none (.n (.n (.n (.n (Lf ()) none .e) none (.n (Lf ()) none .e)) none .e) (some ()) (.n (.n (.n .e none (Lf ())) (some ()) .e) (some ()) (.n (.n .e none (Lf ())) none .e))))) none (.n (.n (.n (.n (.n .e (some ()) (.n .e none (Lf ()))) none (.n .e none (.n (Lf ()) none .e))) none (.n (.n (.n (Lf ()) none .e) (some ()) .e) none .e)) none (.n (.n .e (some ()) (Lf ())) none (.n (.n .e (some ()) (.n (Lf ()) none (Lf ()))) none .e))) none (.n (.n (.n (.n (.n (Lf ()) none .e) none .e) (some ()) (.n (.n .e none (Lf ())) none (.n (Lf ()) none (Lf ())))) none (.n (.n .e none (.n .e none (Lf ()))) (some ()) (.n .e none (.n .e none (Lf ()))))) none (.n (.n (.n .e none (.n .e none (Lf ()))) (some ()) .e) (some ()) (.n (.n (Lf ()) (some ()) (Lf ())) none (Lf ())))))))
noncomputable def setOf:List Nat→T Unit
 | []=>.e
 | k::ks=>(setOf ks).set k ()
theorem setOf_mem:∀ {l:List Nat} {k:Nat},(setOf l).get k=some ()→k∈l
 | [],k,h=>by rw [setOf,T.get_e] at h; cases h
 | j::l,k,h=>by
  rw [setOf,T.get_set] at h
  by_cases hk:k=j
  ·subst hk; exact List.mem_cons_self ..
  ·rw [if_neg hk] at h; exact List.mem_cons_of_mem _ (setOf_mem h)
theorem goodT_eq:goodT=setOf goodL:=by kernel_rfl
theorem heldT_eq:heldT=setOf heldL:=by kernel_rfl
theorem good_all:(goodL.all fun t => !(Tryz.prog.eqGuardType Tryz.prog.depth t))=true:=by kernel_rfl
theorem held_all:(heldL.all fun t => !(Tryz.prog.stoodInHeld t))=true:=by kernel_rfl
def pow10:List V:=[.int .u64 1,.int .u64 10,.int .u64 100,.int .u64 1000,.int .u64 10000,.int .u64 100000,.int .u64 1000000,.int .u64 10000000,.int .u64 100000000,.int .u64 1000000000,.int .u64 10000000000,.int .u64 100000000000,.int .u64 1000000000000,.int .u64 10000000000000,.int .u64 100000000000000,.int .u64 1000000000000000,.int .u64 10000000000000000,.int .u64 100000000000000000,.int .u64 1000000000000000000,.int .u64 10000000000000000000]
def globs (n:Nat):Option (List V):=cond (Nat.beq n 1) (some pow10) none
noncomputable def tb0:Tab:={ fn:=fnT.get,und:=und,inf:=tyT.get,guard:=fun t=>(goodT.get t).isNone,held:=fun t=>(heldT.get t).isNone,focus:=fun f=>Nat.beq f 174,prim:=fun _ _=>none,rm:=fun _=>none,glob:=globs,eqs:=fun _ _=>none,eqi:=fun _ _=>none,bin:=fun _ _ _=>none,conv:=fun _ _ _=>none,keyS:=fun _=>false,lenS:=fun _=>none }
theorem inf_eq {t:Nat} {i:TypeInfo} (h:tyT.get t=some i):Tryz.prog.info? t=some i:=by
 rw [tyT_eq,T.get_ofList] at h
 split at h
 ·rename_i hh
  have e:Tryz.prog.types[t]? = some i:=by rw [types_eq]; simpa using h
  have hlt:t<Tryz.prog.types.size:=(Array.getElem?_eq_some_iff.1 e).1
  show Tables.info? _ t=_
  unfold Tables.info?
  rw [if_pos hlt]; exact e
 ·rw [T.get_e] at h; cases h
theorem tabOk:TabOk tb0 Tryz.prog:=by
 refine⟨fun k f h => ?_,fun t d h => ?_,fun t i h=>inf_eq h,fun t h => ?_,fun t h => ?_⟩
 ·have h:fnT.get k=some f:=h
  rw [fnT_eq,T.get_ofList] at h
  split at h
  ·rw [funcs_eq]; simpa using h
  ·rw [T.get_e] at h; cases h
 ·have h:und t=some d:=h
  unfold und at h
  unfold Program.underlying
  cases hi:tyT.get t with
  | none=>rw [hi] at h; cases h
  | some i=>
   rw [inf_eq hi]
   simp only [hi] at h
   obtain⟨desc,rest⟩:=i
   simp only at h ⊢
   cases desc <;> simp only at h ⊢ <;> try exact h
   rename_i u
   cases hu:tyT.get u with
   | none=>rw [hu] at h; cases h
   | some j=>rw [hu] at h; rw [inf_eq hu]; exact h
 ·have h:(goodT.get t).isNone=false:=h
  cases hg:goodT.get t with
  | none=>rw [hg] at h; cases h
  | some u=>
   rw [goodT_eq] at hg
   have:=List.all_eq_true.1 good_all t (setOf_mem hg)
   simpa using this
 ·have h:(heldT.get t).isNone=false:=h
  cases hg:heldT.get t with
  | none=>rw [hg] at h; cases h
  | some u=>
   rw [heldT_eq] at hg
   have:=List.all_eq_true.1 held_all t (setOf_mem hg)
   simpa using this
def named (fn:Func):Bool:=fn.body.isNone || !(fn.name == "runtime.NumGoroutine")
theorem named_all:(fl.all named)=true:=by kernel_rfl
def extRow (k:Nat) (fn:Func):Bool:=fn.body.isSome||(extOf fn).isNone||Nat.beq k 184||Nat.beq k 221||Nat.beq k 283||Nat.beq k 295
def extRows:List Func→Nat→Bool
 | [],_=>true
 | fn::r,k=>extRow k fn&&extRows r (k+1)
theorem extRows_get:∀ {l:List Func} {k j:Nat} {fn:Func},extRows l k=true→l[j]? = some fn→extRow (k+j) fn=true
 | [],_,_,_,_,h=>by simp at h
 | x::l,k,0,fn,h,hj=>by
  simp only [extRows,Bool.and_eq_true] at h
  simp at hj; subst hj; exact h.1
 | x::l,k,j+1,fn,h,hj=>by
  simp only [extRows,Bool.and_eq_true] at h
  have:=extRows_get h.2 (by simpa using hj)
  rwa [show k+1+j=k+(j+1) from by omega] at this
theorem ext_all:extRows fl 0=true:=by kernel_rfl
theorem find184:Extern.find f184=some Extern.BytealgIndexByte.indexByte:=by kernel_rfl
theorem next184:(Extern.findNext f184).isNone=true:=by kernel_rfl
theorem ext184:(match extOf f184 with | some .indexByte=>true | _=>false)=true:=by kernel_rfl
theorem find221:Extern.find f221=some Extern.BytealgCount.count:=by kernel_rfl
theorem next221:(Extern.findNext f221).isNone=true:=by kernel_rfl
theorem ext221:(match extOf f221 with | some .count=>true | _=>false)=true:=by kernel_rfl
theorem find283:Extern.find f283=some Extern.BytealgCompare.compare:=by kernel_rfl
theorem next283:(Extern.findNext f283).isNone=true:=by kernel_rfl
theorem ext283:(match extOf f283 with | some .cmp=>true | _=>false)=true:=by kernel_rfl
theorem find295:Extern.find f295=some Extern.AbiNoEscape.same:=by kernel_rfl
theorem next295:(Extern.findNext f295).isNone=true:=by kernel_rfl
theorem ext295:(match extOf f295 with | some .noEscape=>true | _=>false)=true:=by kernel_rfl
end Go.Proofs.YtkjinnjopoehhaaGreatDoor
namespace Go.Proofs.YtkjinnjopoehhaaGreatDoor
open Go Ev
def Pow (w0:Base):Prop:=(1<w0.heap.size∧w0.frz 1) ∧ ∃ rc e fr,w0.heap[1]? = some (.cells rc e fr) ∧ ∀ E,CellsR E pow10 rc
theorem mixed_ok:Tryz.prog.follows .mixedOrders=true:=by kernel_rfl
theorem fn_mem {k:Nat} {fn:Func} (h:tb0.fn k=some fn):fl[k]? = some fn:=by
 have h:fnT.get k=some fn:=h
 rw [fnT_eq,T.get_ofList] at h
 split at h
 ·simpa using h
 ·rw [T.get_e] at h; cases h
theorem enter_ok {k:Nat} {fn:Func} {b:Code} (h:tb0.fn k=some fn) (hb:fn.body=some b) (args:Array Value) (w:World):(callFunc k args).run Tryz.prog w = .ok (.enter k args) w:=by
 have hf:=tabOk.fn k fn h
 have hn:=List.all_eq_true.1 named_all fn (List.mem_of_getElem? (fn_mem h))
 have h1:fn.name ≠ "runtime.NumGoroutine" := by simpa [named,hb] using hn
 simp [callFunc,hf,h1,hb]
theorem ext_named {fn:Func} {x:Ext} (h:extOf fn=some x):(fn.name == "runtime.NumGoroutine")=false:=by
 unfold extOf at h
 split at h
 ·rename_i e; rw [e]; decide
 ·split at h
  ·rename_i e; rw [e]; decide
  ·split at h
   ·rename_i e; rw [e]; decide
   ·split at h
    ·rename_i e; rw [e]; decide
    ·cases h
theorem ext_ok {k:Nat} {fn:Func} {x:Ext} (h:tb0.fn k=some fn) (hb:fn.body=none) (hx:extOf fn=some x) (args:Array Value) (w:World) :
  (callFunc k args).run Tryz.prog w=((extSem x args).run Tryz.prog w).andThen fun v w'=>.ok (.value v) w':=by
 have hf:=tabOk.fn k fn h
 have hr:=extRows_get ext_all (fn_mem h)
 rw [Nat.zero_add] at hr
 have hk:k=283∨k=295∨k=184
   ∨ k=221
   := by
  simp only [extRow,hb,hx,Option.isSome_none,Option.isNone_some,Bool.or_eq_true,Bool.false_eq_true,false_or,Nat.beq_eq] at hr
  omega
 have hbn:fn.body.isNone=true:=by rw [hb]; rfl
 rcases hk with rfl | rfl | rfl
   | rfl
 ·obtain rfl:fn=Tryz.f283:=Option.some.inj (hf.symm.trans Tryz.func283)
  have he:=ext283
  rw [hx] at he
  cases x <;> simp at he
  exact run_callFunc_standIn hf (ext_named hx) hbn (Option.isNone_iff_eq_none.1 next283) find283 args w
 ·obtain rfl:fn=Tryz.f295:=Option.some.inj (hf.symm.trans Tryz.func295)
  have he:=ext295
  rw [hx] at he
  cases x <;> simp at he
  exact run_callFunc_standIn hf (ext_named hx) hbn (Option.isNone_iff_eq_none.1 next295) find295 args w
 ·obtain rfl:fn=Tryz.f184:=Option.some.inj (hf.symm.trans Tryz.func184)
  have he:=ext184
  rw [hx] at he
  cases x <;> simp at he
  exact run_callFunc_standIn hf (ext_named hx) hbn (Option.isNone_iff_eq_none.1 next184) find184 args w
 ·obtain rfl:fn=Tryz.f221:=Option.some.inj (hf.symm.trans Tryz.func221)
  have he:=ext221
  rw [hx] at he
  cases x <;> simp at he
  exact run_callFunc_standIn hf (ext_named hx) hbn (Option.isNone_iff_eq_none.1 next221) find221 args w
theorem fnOk {w0:Base} (hg:Pow w0):FnOk tb0 Tryz.prog w0:=by
 refine⟨mixed_ok,fun E _=>⟨(fun _ _ _ h=>by cases h),(fun _ _ _ h=>by cases h),(fun _ _ _ _ h=>by cases h),(fun _ _ _ _ h=>by cases h),(fun _ h=>by cases h),(fun _ _ h=>by cases h),(fun _ _ _ _ h=>by cases h),(fun _ _ _ _ h=>by cases h)⟩,fun n c h => ?_,(fun _ _ _ h=>by cases h),fun k fn b h hb=>enter_ok h hb,fun k fn x h hb hx=>ext_ok h hb hx,
  fun f args v h=>(by cases h),fun f es h=>(by cases h)⟩
 have h:globs n=some c:=h
 unfold globs at h
 cases hn:Nat.beq n 1 with
 | false=>rw [hn] at h; cases h
 | true=>
  rw [hn] at h
  cases h
  obtain rfl:=nbeq_true hn
  obtain⟨h1,rc,e,fr,h2,h3⟩:=hg
  have hb:blkOf w0 1=1:=rfl
  exact⟨by omega,by rw [hb]; exact h1,rc,e,fr,by rw [hb]; exact h2,fun E _=>h3 E⟩
end Go.Proofs.YtkjinnjopoehhaaGreatDoor
namespace Ev
open Go
noncomputable def Tab.over (tb:Tab) (t:T (List (List V × V))) (k:T (List RM)):Tab:=
 {tb with
  prim:=fun f args=>match primOf t f args with
   | some v=>some v
   | none=>tb.prim f args
  rm:=fun f=>match k.get f with
   | none=>tb.rm f
   | some es=>match tb.rm f with
    | none=>some es
    | some fs=>some (es++fs) }
noncomputable def chkRs (tb:Tab) (rounds n:Nat) (l:Kept):Bool:=l.all fun e=>chkR tb rounds n e.1 e.2
section
variable {tb:Tab} {P:Program} {w0:Base}
theorem TabOk.over (h:TabOk tb P) (t:T (List (List V × V))) (k:T (List RM)):TabOk (tb.over t k) P:=⟨h.fn,h.und,h.inf,h.guard,h.held⟩
theorem chkRs_ok (hT:TabOk tb P) (hF:FnOk tb P w0) {rounds n:Nat} {l:Kept} (h:chkRs tb rounds n l=true):Kepts P w0 l:=fun e he=>by
 simp only [chkRs,List.all_eq_true] at h
 exact chkR_ok hT hF (h e he)
theorem FnOk.over (hT:TabOk tb P) (h:FnOk tb P w0) {l:Memo} {t:T (List (List V × V))} (ht:t=mkMemo l) {rounds n:Nat} (hl:chk tb rounds n l=true) {m:Kept} {k:T (List RM)} (hk:k=mkKept m) (hm:chkRs tb rounds n m=true):FnOk (tb.over t k) P w0:=by
 have hl:=chk_ok hT h hl
 have hm:=chkRs_ok hT h hm
 refine⟨h.mixed,fun E hE=>⟨(h.syms E hE).eqs,(h.syms E hE).eqi,(h.syms E hE).bin,(h.syms E hE).conv,(h.syms E hE).key,(h.syms E hE).len,(h.syms E hE).cut,(h.syms E hE).adr⟩,h.glob,h.ld,h.enter,h.ext,fun f args v hp => ?_,fun f es hes => ?_⟩
 ·replace hp:(match primOf t f args with | some v=>some v | none=>tb.prim f args)=some v:=hp
  split at hp
  ·rename_i u hu
   cases hp
   unfold primOf at hu
   subst ht
   split at hu
   ·rename_i r hr
    exact hl _ (mkMemo_mem hr) _ (look_mem hu)
   ·cases hu
  ·exact h.prim f args v hp
 ·replace hes:(match k.get f with | none=>tb.rm f | some es=>match tb.rm f with | none=>some es | some fs=>some (es++fs))=some es:=hes
  subst hk
  split at hes
  ·exact h.rm f es hes
  ·rename_i e1 h1
   split at hes
   ·cases hes
    exact hm _ (mkKept_mem h1)
   ·rename_i e2 h2
    cases hes
    intro e he
    rcases List.mem_append.1 he with he | he
    ·exact hm _ (mkKept_mem h1) e he
    ·exact h.rm f e2 h2 e he
end
end Ev
