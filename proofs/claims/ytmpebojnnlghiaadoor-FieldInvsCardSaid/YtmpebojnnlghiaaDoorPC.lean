/- Contracts of the program's functions, and laws over them. There is no further condition. -/
import Derived.Test.YtmpebojnnlghiaaDoorPR
set_option linter.unusedVariables false
set_option linter.unusedSimpArgs false
set_option exponentiation.threshold 2000
namespace Eng
/-! The prime of the field and the order are prime (a chain of Pocklington's criterion). -/
theorem pr_c0 : Pr 211 := pr_small 14 (by decide) (by decide) (by decide +kernel)
theorem pr_c1 : Pr 233 := pr_small 15 (by decide) (by decide) (by decide +kernel)
theorem pr_c2 : Pr 311 := pr_small 17 (by decide) (by decide) (by decide +kernel)
theorem pr_c3 : Pr 421 := pr_small 20 (by decide) (by decide) (by decide +kernel)
theorem pr_c4 : Pr 881 := pr_small 29 (by decide) (by decide) (by decide +kernel)
theorem pr_c5 : Pr 21407 := pr_small 146 (by decide) (by decide) (by decide +kernel)
theorem pr_c6 : Pr 363557 := pr_small 602 (by decide) (by decide) (by decide +kernel)
theorem pr_c7 : Pr 9863677 := pr_two (k := 11196) (a := 2) (k' := 31716) (a' := 2) (by decide +kernel) (by decide +kernel) pr_c4 pr_c2 (by decide +kernel) (by decide +kernel)
theorem pr_c8 : Pr 105957871 := pr_two (k := 120270) (a := 2) (k' := 502170) (a' := 2) (by decide +kernel) (by decide +kernel) pr_c4 pr_c0 (by decide +kernel) (by decide +kernel)
theorem pr_c9 : Pr 246608641 := pr_one (k := 11520) (a := 2) (by decide +kernel) pr_c5 (by decide +kernel)
theorem pr_c10 : Pr 272109983 := pr_two (k := 646342) (a := 2) (k' := 1167854) (a' := 2) (by decide +kernel) (by decide +kernel) pr_c3 pr_c1 (by decide +kernel) (by decide +kernel)
theorem pr_c11 : Pr 532247449 := pr_one (k := 1464) (a := 2) (by decide +kernel) pr_c6 (by decide +kernel)
theorem pr_c12 : Pr 228572385721 := pr_one (k := 840) (a := 2) (by decide +kernel) pr_c10 (by decide +kernel)
theorem pr_c13 : Pr 23314383343543 := pr_one (k := 102) (a := 2) (by decide +kernel) pr_c12 (by decide +kernel)
theorem pr_c14 : Pr 37344768852931 := pr_one (k := 3786090) (a := 2) (by decide +kernel) pr_c7 (by decide +kernel)
theorem pr_c15 : Pr 44925942675193 := pr_one (k := 84408) (a := 2) (by decide +kernel) pr_c11 (by decide +kernel)
theorem pr_c16 : Pr 55942463741690639 := pr_one (k := 1498) (a := 2) (by decide +kernel) pr_c14 (by decide +kernel)
theorem pr_c17 : Pr 426632512014427833817 := pr_one (k := 18299112) (a := 2) (by decide +kernel) pr_c13 (by decide +kernel)
theorem pr_c18 : Pr 529709925838459440593 := pr_two (k := 2147977960912) (a := 2) (k' := 4999250370352) (a' := 2) (by decide +kernel) (by decide +kernel) pr_c9 pr_c8 (by decide +kernel) (by decide +kernel)
theorem pr_c19 : Pr 35581458644053887931343 := pr_one (k := 792002494) (a := 2) (by decide +kernel) pr_c15 (by decide +kernel)
theorem pr_c20 : Pr 1495199339761412565498084319 := pr_one (k := 3504654) (a := 2) (by decide +kernel) pr_c17 (by decide +kernel)
theorem pr_c21 : Pr 17942392077136950785977011829 := pr_one (k := 12) (a := 2) (by decide +kernel) pr_c20 (by decide +kernel)
theorem pr_c22 : Pr 23964610537191310276190549303 := pr_one (k := 673514) (a := 2) (by decide +kernel) pr_c19 (by decide +kernel)
theorem pr_c23 : Pr 862725979338887169942859774909 := pr_one (k := 36) (a := 2) (by decide +kernel) pr_c22 (by decide +kernel)
theorem pr_c24 : Pr 20705423504133292078628634597817 := pr_one (k := 24) (a := 2) (by decide +kernel) pr_c23 (by decide +kernel)
theorem pr_c25 : Pr 413244619895455989650825325680172591660047 := pr_one (k := 19958279038) (a := 2) (by decide +kernel) pr_c24 (by decide +kernel)
theorem pr_c26 : Pr 12397338596863679689524759770405177749801411 := pr_one (k := 30) (a := 2) (by decide +kernel) pr_c25 (by decide +kernel)
theorem pr_c27 : Pr 1059392654943455286185473617842338478315215895509773412096307 := pr_two (k := 59044114652548685817935616758314) (a := 2) (k' := 18937182671022621403976774588414660839566254) (a' := 2) (by decide +kernel) (by decide +kernel) pr_c21 pr_c16 (by decide +kernel) (by decide +kernel)
theorem pr_c28 : Pr 3055465788140352002733946906144561090641249606160407884365391979704929268480326390471 := pr_one (k := 2884167427329800039538210) (a := 2) (by decide +kernel) pr_c27 (by decide +kernel)
theorem pr_c29 : Pr 19173790298027098165721053155794528970226934547887232785722672956982046098136719667167519737147526097 := pr_two (k := 1546605357933657467587294243086068506965106718544748132336) (a := 2) (k' := 36196773673209108854078416512380613964711027274668755761194285045868717602353872) (a' := 2) (by decide +kernel) (by decide +kernel) pr_c26 pr_c18 (by decide +kernel) (by decide +kernel)
theorem pr_N384 : Pr 39402006196394479212279040100143613805079739270465446667946905279627659399113263569398956308152294913554433653942643 := pr_one (k := 12895580879789762060783039592702) (a := 2) (by decide +kernel) pr_c28 (by decide +kernel)
theorem pr_P384 : Pr 39402006196394479212279040100143613805079739270465446667948293404245721771496870329047266088258938001861606973112319 := pr_one (k := 2054993070433694) (a := 2) (by decide +kernel) pr_c29 (by decide +kernel)
end Eng
