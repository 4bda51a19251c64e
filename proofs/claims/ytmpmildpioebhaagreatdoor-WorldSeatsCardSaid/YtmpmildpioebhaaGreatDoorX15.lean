/-
  The statement WorldSeats (law 23): a seat whose power goes off is gone, and comes back with nothing lost. Part 15 of 27. No condition stands ahead of the statement. Parts of this text were printed by a program of ours.
-/
import Derived.Test.YtmpmildpioebhaaGreatDoorX11
import Derived.KernelRfl
import Derived.Test.YtmpmildpioebhaaGreatDoorChecked
set_option linter.all false
set_option maxRecDepth 100000
set_option maxHeartbeats 4000000
noncomputable section
namespace Go.Vm
open Go Go.Proofs.Tryz
noncomputable abbrev PR:Program:=Go.Proofs.Tryz.prog
noncomputable def tyT0:N (N (Option TypeInfo)):=⟨⟨some t0,some t1,some t2,some t3,some t4,some t5,some t6,some t7,some t8,some t9,some t10,some t11,some t12,some t13,some t14,some t15⟩,
 ⟨some t16,some t17,some t18,some t19,some t20,some t21,some t22,some t23,some t24,some t25,some t26,some t27,some t28,some t29,some t30,some t31⟩,
 ⟨some t32,some t33,some t34,some t35,some t36,some t37,some t38,some t39,some t40,some t41,some t42,some t43,some t44,some t45,some t46,some t47⟩,
 ⟨some t48,some t49,some t50,some t51,some t52,some t53,some t54,some t55,some t56,some t57,some t58,some t59,some t60,some t61,some t62,some t63⟩,
 ⟨some t64,some t65,some t66,some t67,some t68,some t69,some t70,some t71,some t72,some t73,some t74,some t75,some t76,some t77,some t78,some t79⟩,
 ⟨some t80,some t81,some t82,some t83,some t84,some t85,some t86,some t87,some t88,some t89,some t90,some t91,some t92,some t93,some t94,some t95⟩,
 ⟨some t96,some t97,some t98,some t99,some t100,some t101,some t102,some t103,some t104,some t105,some t106,some t107,some t108,some t109,some t110,some t111⟩,
 ⟨some t112,some t113,some t114,some t115,some t116,some t117,some t118,some t119,some t120,some t121,some t122,some t123,some t124,some t125,some t126,some t127⟩,
 ⟨some t128,some t129,some t130,some t131,some t132,some t133,some t134,some t135,some t136,some t137,some t138,some t139,some t140,some t141,some t142,some t143⟩,
 ⟨some t144,some t145,some t146,some t147,some t148,some t149,some t150,some t151,some t152,some t153,some t154,some t155,some t156,some t157,some t158,some t159⟩,
 ⟨some t160,some t161,some t162,some t163,some t164,some t165,some t166,some t167,some t168,some t169,some t170,some t171,some t172,some t173,some t174,some t175⟩,
 ⟨some t176,some t177,some t178,some t179,some t180,some t181,some t182,some t183,some t184,some t185,some t186,some t187,some t188,some t189,some t190,some t191⟩,
 ⟨some t192,some t193,some t194,some t195,some t196,some t197,some t198,some t199,some t200,some t201,some t202,some t203,some t204,some t205,some t206,some t207⟩,
 ⟨some t208,some t209,some t210,some t211,some t212,some t213,some t214,some t215,some t216,some t217,some t218,some t219,some t220,some t221,some t222,some t223⟩,
 ⟨some t224,some t225,some t226,some t227,some t228,some t229,some t230,some t231,some t232,some t233,some t234,some t235,some t236,some t237,some t238,some t239⟩,
 ⟨some t240,some t241,some t242,some t243,some t244,some t245,some t246,some t247,some t248,some t249,some t250,some t251,some t252,some t253,some t254,some t255⟩⟩
noncomputable def tyT1:N (N (Option TypeInfo)):=⟨⟨some t256,some t257,some t258,some t259,some t260,some t261,some t262,some t263,some t264,some t265,some t266,some t267,some t268,some t269,some t270,some t271⟩,
 ⟨some t272,some t273,some t274,some t275,some t276,some t277,some t278,some t279,some t280,some t281,some t282,some t283,some t284,some t285,some t286,some t287⟩,
 ⟨some t288,some t289,some t290,some t291,some t292,some t293,some t294,some t295,some t296,some t297,some t298,some t299,some t300,some t301,some t302,some t303⟩,
 ⟨some t304,some t305,some t306,some t307,some t308,some t309,some t310,some t311,some t312,some t313,some t314,some t315,some t316,some t317,some t318,some t319⟩,
 ⟨some t320,some t321,some t322,some t323,some t324,some t325,some t326,some t327,some t328,some t329,some t330,some t331,some t332,some t333,some t334,some t335⟩,
 ⟨some t336,some t337,some t338,some t339,some t340,some t341,some t342,some t343,some t344,some t345,some t346,some t347,some t348,some t349,some t350,some t351⟩,
 ⟨some t352,some t353,some t354,some t355,some t356,some t357,some t358,some t359,some t360,some t361,some t362,some t363,some t364,some t365,some t366,some t367⟩,
 ⟨some t368,some t369,some t370,some t371,some t372,some t373,some t374,some t375,some t376,some t377,some t378,some t379,some t380,some t381,some t382,some t383⟩,
 ⟨some t384,some t385,some t386,some t387,some t388,some t389,some t390,some t391,some t392,some t393,some t394,some t395,some t396,some t397,some t398,some t399⟩,
 ⟨some t400,some t401,some t402,some t403,some t404,some t405,some t406,some t407,some t408,some t409,some t410,some t411,some t412,some t413,some t414,some t415⟩,
 ⟨some t416,some t417,some t418,some t419,some t420,some t421,some t422,some t423,some t424,some t425,some t426,some t427,some t428,some t429,some t430,some t431⟩,
 ⟨some t432,some t433,some t434,some t435,some t436,some t437,some t438,some t439,some t440,some t441,some t442,some t443,some t444,some t445,some t446,some t447⟩,
 ⟨some t448,some t449,some t450,some t451,some t452,some t453,some t454,some t455,some t456,some t457,some t458,some t459,some t460,some t461,some t462,some t463⟩,
 ⟨some t464,some t465,some t466,some t467,some t468,some t469,some t470,some t471,some t472,some t473,some t474,some t475,some t476,some t477,some t478,some t479⟩,
 ⟨some t480,some t481,some t482,some t483,some t484,some t485,some t486,some t487,some t488,some t489,some t490,some t491,some t492,some t493,some t494,some t495⟩,
 ⟨some t496,some t497,some t498,some t499,some t500,some t501,some t502,some t503,some t504,some t505,some t506,some t507,some t508,some t509,some t510,some t511⟩⟩
noncomputable def tyT2:N (N (Option TypeInfo)):=⟨⟨some t512,none,none,none,none,none,none,none,none,none,none,none,none,none,none,none⟩,
 ⟨none,none,none,none,none,none,none,none,none,none,none,none,none,none,none,none⟩,
 ⟨none,none,none,none,none,none,none,none,none,none,none,none,none,none,none,none⟩,
 ⟨none,none,none,none,none,none,none,none,none,none,none,none,none,none,none,none⟩,
 ⟨none,none,none,none,none,none,none,none,none,none,none,none,none,none,none,none⟩,
 ⟨none,none,none,none,none,none,none,none,none,none,none,none,none,none,none,none⟩,
 ⟨none,none,none,none,none,none,none,none,none,none,none,none,none,none,none,none⟩,
 ⟨none,none,none,none,none,none,none,none,none,none,none,none,none,none,none,none⟩,
 ⟨none,none,none,none,none,none,none,none,none,none,none,none,none,none,none,none⟩,
 ⟨none,none,none,none,none,none,none,none,none,none,none,none,none,none,none,none⟩,
 ⟨none,none,none,none,none,none,none,none,none,none,none,none,none,none,none,none⟩,
 ⟨none,none,none,none,none,none,none,none,none,none,none,none,none,none,none,none⟩,
 ⟨none,none,none,none,none,none,none,none,none,none,none,none,none,none,none,none⟩,
 ⟨none,none,none,none,none,none,none,none,none,none,none,none,none,none,none,none⟩,
 ⟨none,none,none,none,none,none,none,none,none,none,none,none,none,none,none,none⟩,
 ⟨none,none,none,none,none,none,none,none,none,none,none,none,none,none,none,none⟩⟩
noncomputable def tyT:N (N (N (Option TypeInfo))):=⟨tyT0,tyT1,tyT2,fillN (fillN none),fillN (fillN none),fillN (fillN none),fillN (fillN none),fillN (fillN none),fillN (fillN none),fillN (fillN none),fillN (fillN none),fillN (fillN none),fillN (fillN none),fillN (fillN none),fillN (fillN none),fillN (fillN none)⟩
noncomputable def fnT0:N (N (Option Func)):=⟨⟨some f0,some f1,some f2,some f3,some f4,some f5,some f6,some f7,some f8,some f9,some f10,some f11,some f12,some f13,some f14,some f15⟩,
 ⟨some f16,some f17,some f18,some f19,some f20,some f21,some f22,some f23,some f24,some f25,some f26,some f27,some f28,some f29,some f30,some f31⟩,
 ⟨some f32,some f33,some f34,some f35,some f36,some f37,some f38,some f39,some f40,some f41,some f42,some f43,some f44,some f45,some f46,some f47⟩,
 ⟨some f48,some f49,some f50,some f51,some f52,some f53,some f54,some f55,some f56,some f57,some f58,some f59,some f60,some f61,some f62,some f63⟩,
 ⟨some f64,some f65,some f66,some f67,some f68,some f69,some f70,some f71,some f72,some f73,some f74,some f75,some f76,some f77,some f78,some f79⟩,
 ⟨some f80,some f81,some f82,some f83,some f84,some f85,some f86,some f87,some f88,some f89,some f90,some f91,some f92,some f93,some f94,some f95⟩,
 ⟨some f96,some f97,some f98,some f99,some f100,some f101,some f102,some f103,some f104,some f105,some f106,some f107,some f108,some f109,some f110,some f111⟩,
 ⟨some f112,some f113,some f114,some f115,some f116,some f117,some f118,some f119,some f120,some f121,some f122,some f123,some f124,some f125,some f126,some f127⟩,
 ⟨some f128,some f129,some f130,some f131,some f132,some f133,some f134,some f135,some f136,some f137,some f138,some f139,some f140,some f141,some f142,some f143⟩,
 ⟨some f144,some f145,some f146,some f147,some f148,some f149,some f150,some f151,some f152,some f153,some f154,some f155,some f156,some f157,some f158,some f159⟩,
 ⟨some f160,some f161,some f162,some f163,some f164,some f165,some f166,some f167,some f168,some f169,some f170,some f171,some f172,some f173,some f174,some f175⟩,
 ⟨some f176,some f177,some f178,some f179,some f180,some f181,some f182,some f183,some f184,some f185,some f186,some f187,some f188,some f189,some f190,some f191⟩,
 ⟨some f192,some f193,some f194,some f195,some f196,some f197,some f198,some f199,some f200,some f201,some f202,some f203,some f204,some f205,some f206,some f207⟩,
 ⟨some f208,some f209,some f210,some f211,some f212,some f213,some f214,some f215,some f216,some f217,some f218,some f219,some f220,some f221,some f222,some f223⟩,
 ⟨some f224,some f225,some f226,some f227,some f228,some f229,some f230,some f231,some f232,some f233,some f234,some f235,some f236,some f237,some f238,some f239⟩,
 ⟨some f240,some f241,some f242,some f243,some f244,some f245,some f246,some f247,some f248,some f249,some f250,some f251,some f252,some f253,some f254,some f255⟩⟩
noncomputable def fnT1:N (N (Option Func)):=⟨⟨some f256,some f257,some f258,some f259,some f260,some f261,some f262,some f263,some f264,some f265,some f266,some f267,some f268,some f269,some f270,some f271⟩,
 ⟨some f272,some f273,some f274,some f275,some f276,some f277,some f278,some f279,some f280,some f281,some f282,some f283,some f284,some f285,some f286,some f287⟩,
 ⟨some f288,some f289,some f290,some f291,some f292,some f293,some f294,some f295,some f296,some f297,some f298,some f299,some f300,some f301,some f302,some f303⟩,
 ⟨some f304,some f305,some f306,some f307,some f308,some f309,some f310,some f311,some f312,some f313,some f314,some f315,some f316,some f317,some f318,some f319⟩,
 ⟨some f320,some f321,some f322,some f323,some f324,some f325,some f326,some f327,some f328,some f329,some f330,some f331,some f332,some f333,some f334,some f335⟩,
 ⟨some f336,some f337,some f338,some f339,some f340,some f341,some f342,some f343,some f344,some f345,some f346,some f347,some f348,some f349,some f350,some f351⟩,
 ⟨some f352,some f353,some f354,some f355,some f356,some f357,some f358,some f359,some f360,some f361,some f362,some f363,some f364,some f365,some f366,some f367⟩,
 ⟨some f368,some f369,some f370,some f371,some f372,some f373,none,none,none,none,none,none,none,none,none,none⟩,
 ⟨none,none,none,none,none,none,none,none,none,none,none,none,none,none,none,none⟩,
 ⟨none,none,none,none,none,none,none,none,none,none,none,none,none,none,none,none⟩,
 ⟨none,none,none,none,none,none,none,none,none,none,none,none,none,none,none,none⟩,
 ⟨none,none,none,none,none,none,none,none,none,none,none,none,none,none,none,none⟩,
 ⟨none,none,none,none,none,none,none,none,none,none,none,none,none,none,none,none⟩,
 ⟨none,none,none,none,none,none,none,none,none,none,none,none,none,none,none,none⟩,
 ⟨none,none,none,none,none,none,none,none,none,none,none,none,none,none,none,none⟩,
 ⟨none,none,none,none,none,none,none,none,none,none,none,none,none,none,none,none⟩⟩
noncomputable def fnT:N (N (N (Option Func))):=⟨fnT0,fnT1,fillN (fillN none),fillN (fillN none),fillN (fillN none),fillN (fillN none),fillN (fillN none),fillN (fillN none),fillN (fillN none),fillN (fillN none),fillN (fillN none),fillN (fillN none),fillN (fillN none),fillN (fillN none),fillN (fillN none),fillN (fillN none)⟩
noncomputable def tyL:List TypeInfo:=[t0,t1,t2,t3,t4,t5,t6,t7,t8,t9,t10,t11,t12,t13,t14,t15,t16,t17,t18,t19,t20,t21,t22,t23,t24,t25,t26,t27,t28,t29,t30,t31,t32,t33,t34,t35,t36,t37,t38,t39,t40,t41,t42,t43,t44,t45,t46,t47,t48,t49,t50,t51,t52,t53,t54,t55,t56,t57,t58,t59,t60,t61,t62,t63,t64,t65,t66,t67,t68,t69,t70,t71,t72,t73,t74,t75,t76,t77,t78,t79,t80,t81,t82,t83,t84,t85,t86,t87,t88,t89,t90,t91,t92,t93,t94,t95,t96,t97,t98,t99,t100,t101,t102,t103,t104,t105,t106,t107,t108,t109,t110,t111,t112,t113,t114,t115,t116,t117,t118,t119,t120,t121,t122,t123,t124,t125,t126,t127,t128,t129,t130,t131,t132,t133,t134,t135,t136,t137,t138,t139,t140,t141,t142,t143,t144,t145,t146,t147,t148,t149,t150,t151,t152,t153,t154,t155,t156,t157,t158,t159,t160,t161,t162,t163,t164,t165,t166,t167,t168,t169,t170,t171,t172,t173,t174,t175,t176,t177,t178,t179,t180,t181,t182,t183,t184,t185,t186,t187,t188,t189,t190,t191,t192,t193,t194,t195,t196,t197,t198,t199,t200,t201,t202,t203,t204,t205,t206,t207,t208,t209,t210,t211,t212,t213,t214,t215,t216,t217,t218,t219,t220,t221,t222,t223,t224,t225,t226,t227,t228,t229,t230,t231,t232,t233,t234,t235,t236,t237,t238,t239,t240,t241,t242,t243,t244,t245,t246,t247,t248,t249,t250,t251,t252,t253,t254,t255,t256,t257,t258,t259,t260,t261,t262,t263,t264,t265,t266,t267,t268,t269,t270,t271,t272,t273,t274,t275,t276,t277,t278,t279,t280,t281,t282,t283,t284,t285,t286,t287,t288,t289,t290,t291,t292,t293,t294,t295,t296,t297,t298,t299,t300,t301,t302,t303,t304,t305,t306,t307,t308,t309,t310,t311,t312,t313,t314,t315,t316,t317,t318,t319,t320,t321,t322,t323,t324,t325,t326,t327,t328,t329,t330,t331,t332,t333,t334,t335,t336,t337,t338,t339,t340,t341,t342,t343,t344,t345,t346,t347,t348,t349,t350,t351,t352,t353,t354,t355,t356,t357,t358,t359,t360,t361,t362,t363,t364,t365,t366,t367,t368,t369,t370,t371,t372,t373,t374,t375,t376,t377,t378,t379,t380,t381,t382,t383,t384,t385,t386,t387,t388,t389,t390,t391,t392,t393,t394,t395,t396,t397,t398,t399,t400,t401,t402,t403,t404,t405,t406,t407,t408,t409,t410,t411,t412,t413,t414,t415,t416,t417,t418,t419,t420,t421,t422,t423,t424,t425,t426,t427,t428,t429,t430,t431,t432,t433,t434,t435,t436,t437,t438,t439,t440,t441,t442,t443,t444,t445,t446,t447,t448,t449,t450,t451,t452,t453,t454,t455,t456,t457,t458,t459,t460,t461,t462,t463,t464,t465,t466,t467,t468,t469,t470,t471,t472,t473,t474,t475,t476,t477,t478,t479,t480,t481,t482,t483,t484,t485,t486,t487,t488,t489,t490,t491,t492,t493,t494,t495,t496,t497,t498,t499,t500,t501,t502,t503,t504,t505,t506,t507,t508,t509,t510,t511,t512]
noncomputable def fnL:List Func:=[f0,f1,f2,f3,f4,f5,f6,f7,f8,f9,f10,f11,f12,f13,f14,f15,f16,f17,f18,f19,f20,f21,f22,f23,f24,f25,f26,f27,f28,f29,f30,f31,f32,f33,f34,f35,f36,f37,f38,f39,f40,f41,f42,f43,f44,f45,f46,f47,f48,f49,f50,f51,f52,f53,f54,f55,f56,f57,f58,f59,f60,f61,f62,f63,f64,f65,f66,f67,f68,f69,f70,f71,f72,f73,f74,f75,f76,f77,f78,f79,f80,f81,f82,f83,f84,f85,f86,f87,f88,f89,f90,f91,f92,f93,f94,f95,f96,f97,f98,f99,f100,f101,f102,f103,f104,f105,f106,f107,f108,f109,f110,f111,f112,f113,f114,f115,f116,f117,f118,f119,f120,f121,f122,f123,f124,f125,f126,f127,f128,f129,f130,f131,f132,f133,f134,f135,f136,f137,f138,f139,f140,f141,f142,f143,f144,f145,f146,f147,f148,f149,f150,f151,f152,f153,f154,f155,f156,f157,f158,f159,f160,f161,f162,f163,f164,f165,f166,f167,f168,f169,f170,f171,f172,f173,f174,f175,f176,f177,f178,f179,f180,f181,f182,f183,f184,f185,f186,f187,f188,f189,f190,f191,f192,f193,f194,f195,f196,f197,f198,f199,f200,f201,f202,f203,f204,f205,f206,f207,f208,f209,f210,f211,f212,f213,f214,f215,f216,f217,f218,f219,f220,f221,f222,f223,f224,f225,f226,f227,f228,f229,f230,f231,f232,f233,f234,f235,f236,f237,f238,f239,f240,f241,f242,f243,f244,f245,f246,f247,f248,f249,f250,f251,f252,f253,f254,f255,f256,f257,f258,f259,f260,f261,f262,f263,f264,f265,f266,f267,f268,f269,f270,f271,f272,f273,f274,f275,f276,f277,f278,f279,f280,f281,f282,f283,f284,f285,f286,f287,f288,f289,f290,f291,f292,f293,f294,f295,f296,f297,f298,f299,f300,f301,f302,f303,f304,f305,f306,f307,f308,f309,f310,f311,f312,f313,f314,f315,f316,f317,f318,f319,f320,f321,f322,f323,f324,f325,f326,f327,f328,f329,f330,f331,f332,f333,f334,f335,f336,f337,f338,f339,f340,f341,f342,f343,f344,f345,f346,f347,f348,f349,f350,f351,f352,f353,f354,f355,f356,f357,f358,f359,f360,f361,f362,f363,f364,f365,f366,f367,f368,f369,f370,f371,f372,f373]
noncomputable def TB:Tb:=⟨fun t=>bif Nat.blt t 4096 then look3 tyT t else none,fun f=>bif Nat.blt f 4096 then look3 fnT f else none⟩
theorem tyT_eq:tyT = mkT tyL:=by kernel_rfl
theorem fnT_eq:fnT = mkT fnL:=by kernel_rfl
theorem types_eq:PR.types.toList = tyL:=by kernel_rfl
theorem funcs_eq:PR.funcs.toList = fnL:=by kernel_rfl
theorem kO:(List.range 513).all (fun t=>match kkT TB t with | some (.key _)=>Nat.beq t 32 || Nat.beq t 33 || Nat.beq t 52 || Nat.beq t 53 || Nat.beq t 379 || Nat.beq t 380 || Nat.beq t 443 || Nat.beq t 444 | _=>true) = true:=by kernel_rfl
theorem kD:(List.range 513).all (fun t=>!Nat.beq (kk1 TB t) 2 || Nat.beq t 30 || Nat.beq t 31) = true:=by kernel_rfl
theorem ym:PR.follows .mixedOrders = true:=by kernel_rfl
theorem kSt32:PR.stoodInHeld 32 = false:=by kernel_rfl
theorem kEq32:PR.eqGuardType PR.depth 32 = false:=by kernel_rfl
theorem kSt33:PR.stoodInHeld 33 = false:=by kernel_rfl
theorem kEq33:PR.eqGuardType PR.depth 33 = false:=by kernel_rfl
theorem kSt52:PR.stoodInHeld 52 = false:=by kernel_rfl
theorem kEq52:PR.eqGuardType PR.depth 52 = false:=by kernel_rfl
theorem kSt53:PR.stoodInHeld 53 = false:=by kernel_rfl
theorem kEq53:PR.eqGuardType PR.depth 53 = false:=by kernel_rfl
theorem kSt379:PR.stoodInHeld 379 = false:=by kernel_rfl
theorem kEq379:PR.eqGuardType PR.depth 379 = false:=by kernel_rfl
theorem kSt380:PR.stoodInHeld 380 = false:=by kernel_rfl
theorem kEq380:PR.eqGuardType PR.depth 380 = false:=by kernel_rfl
theorem kSt443:PR.stoodInHeld 443 = false:=by kernel_rfl
theorem kEq443:PR.eqGuardType PR.depth 443 = false:=by kernel_rfl
theorem kSt444:PR.stoodInHeld 444 = false:=by kernel_rfl
theorem kEq444:PR.eqGuardType PR.depth 444 = false:=by kernel_rfl
theorem kEq30:PR.eqGuardType PR.depth 30 = false:=by kernel_rfl
theorem kEq31:PR.eqGuardType PR.depth 31 = false:=by kernel_rfl
theorem nmO : fnL.all (fun f => !(f.name == "runtime.NumGoroutine")) = true := by kernel_rfl
theorem TB_info {t:Nat} {i:TypeInfo} (h:TB.info t = some i):t < 513∧PR.info? t = some i:=by
 have h:(bif Nat.blt t 4096 then look3 tyT t else none) = some i:=h
 cases c:Nat.blt t 4096 with
 | false=>rw [c] at h; cases h
 | true=>
  rw [c,tyT_eq] at h
  have ht:t < 4096:=by rw [Nat.blt_eq] at c; exact c
  have h:look3 (mkT tyL) t = some i:=h
  rw [look3_mkT ht] at h
  have hl:t < tyL.length:=by rw [List.getElem?_eq_some_iff] at h; exact h.1
  have hs:PR.types.size = tyL.length:=by rw [← types_eq,Array.length_toList]
  refine ⟨hl,?_⟩
  show (if t < PR.types.size then PR.types[t]? else _) = some i
  rw [if_pos (by rw [hs]; exact hl),← Array.getElem?_toList,types_eq]
  exact h
theorem TB_func {f:Nat} {fn:Func} (h:TB.func f = some fn):fnL[f]? = some fn:=by
 have h:(bif Nat.blt f 4096 then look3 fnT f else none) = some fn:=h
 cases c:Nat.blt f 4096 with
 | false=>rw [c] at h; cases h
 | true=>
  rw [c,fnT_eq] at h
  have ht:f < 4096:=by rw [Nat.blt_eq] at c; exact c
  have h:look3 (mkT fnL) f = some fn:=h
  rwa [look3_mkT ht] at h
theorem TB_ok:TbOk PR TB:=by
 have lt:∀ {t d},TB.und t = some d→t < 513:=fun {t d} h=>by
  unfold Tb.und at h
  cases e:TB.info t with
  | none=>rw [e] at h; cases h
  | some i=>exact (TB_info e).1
 refine ⟨fun t i h=>(TB_info h).2,fun f fn h=>?_,fun f fn h=>?_,fun K s h=>?_,fun t h=>?_⟩
 ·rw [← Array.getElem?_toList,funcs_eq]; exact TB_func h
 ·have:=List.all_eq_true.1 nmO fn (List.mem_of_getElem? (TB_func h))
  simpa using this
 ·have hK:K < 513:=by
   unfold kkT at h
   cases e:TB.und K with
   | none=>rw [e] at h; simp only [kk1,e] at h; cases h
   | some d=>exact lt e
  have h1:=List.all_eq_true.1 kO K (List.mem_range.2 hK)
  simp only [h,Bool.or_eq_true,Nat.beq_eq_true_eq] at h1
  rcases h1 with ((((((h1 | h1) | h1) | h1) | h1) | h1) | h1) | h1
  ·have h1:=ya h1; subst h1; exact ⟨kSt32,kEq32⟩
  ·have h1:=ya h1; subst h1; exact ⟨kSt33,kEq33⟩
  ·have h1:=ya h1; subst h1; exact ⟨kSt52,kEq52⟩
  ·have h1:=ya h1; subst h1; exact ⟨kSt53,kEq53⟩
  ·have h1:=ya h1; subst h1; exact ⟨kSt379,kEq379⟩
  ·have h1:=ya h1; subst h1; exact ⟨kSt380,kEq380⟩
  ·have h1:=ya h1; subst h1; exact ⟨kSt443,kEq443⟩
  ·have h1:=ya h1; subst h1; exact ⟨kSt444,kEq444⟩
 ·have hK:t < 513:=by
   unfold kk1 at h
   cases e:TB.und t with
   | none=>rw [e] at h; cases h
   | some d=>exact lt e
  have h1:=List.all_eq_true.1 kD t (List.mem_range.2 hK)
  rw [h] at h1
  simp only [Nat.beq_refl,Bool.not_true,Bool.false_or,Bool.or_eq_true,Nat.beq_eq_true_eq] at h1
  rcases h1 with h1 | h1
  ·have h1:=ya h1; subst h1; exact kEq30
  ·have h1:=ya h1; subst h1; exact kEq31
end Go.Vm
