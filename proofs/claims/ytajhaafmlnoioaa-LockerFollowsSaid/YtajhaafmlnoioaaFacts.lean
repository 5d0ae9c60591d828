/-
  What simp is to know of the types of this translation: sizes, zero values, underlying types; and of the results of its functions. Written by a program of ours.
-/
import Derived.Test.YtajhaafmlnoioaaRows
import Derived.KernelRfl
namespace Go.Proofs
open Go
set_option maxRecDepth 100000
@[simp] theorem Try.info0 : Try.prog.info? 0 = some Try.t0 := Try.type0
@[simp] theorem Try.size0 : Try.t0.size = 1 := rfl
@[simp] theorem Try.bytes0 : Try.t0.bytes = 0 := rfl
@[simp] theorem Try.zero0 : Try.t0.zero = some (.tuple #[]) := rfl
attribute [simp] Try.underlying0
@[simp] theorem Try.info1 : Try.prog.info? 1 = some Try.t1 := Try.type1
@[simp] theorem Try.size1 : Try.t1.size = 1 := rfl
@[simp] theorem Try.bytes1 : Try.t1.bytes = 8 := rfl
@[simp] theorem Try.zero1 : Try.t1.zero = some (.nilFunc) := rfl
attribute [simp] Try.underlying1
@[simp] theorem Try.info2 : Try.prog.info? 2 = some Try.t2 := Try.type2
@[simp] theorem Try.size2 : Try.t2.size = 1 := rfl
@[simp] theorem Try.bytes2 : Try.t2.bytes = 8 := rfl
@[simp] theorem Try.zero2 : Try.t2.zero = some (.int .i64 0) := rfl
attribute [simp] Try.underlying2
@[simp] theorem Try.info3 : Try.prog.info? 3 = some Try.t3 := Try.type3
@[simp] theorem Try.size3 : Try.t3.size = 1 := rfl
@[simp] theorem Try.bytes3 : Try.t3.bytes = 8 := rfl
@[simp] theorem Try.zero3 : Try.t3.zero = some (.int .i64 0) := rfl
attribute [simp] Try.underlying3
@[simp] theorem Try.info4 : Try.prog.info? 4 = some Try.t4 := Try.type4
@[simp] theorem Try.size4 : Try.t4.size = 1 := rfl
@[simp] theorem Try.bytes4 : Try.t4.bytes = 1 := rfl
@[simp] theorem Try.zero4 : Try.t4.zero = some (.bool false) := rfl
attribute [simp] Try.underlying4
@[simp] theorem Try.info5 : Try.prog.info? 5 = some Try.t5 := Try.type5
@[simp] theorem Try.size5 : Try.t5.size = 1 := rfl
@[simp] theorem Try.bytes5 : Try.t5.bytes = 1 := rfl
@[simp] theorem Try.zero5 : Try.t5.zero = some (.int .u8 0) := rfl
attribute [simp] Try.underlying5
@[simp] theorem Try.info6 : Try.prog.info? 6 = some Try.t6 := Try.type6
@[simp] theorem Try.size6 : Try.t6.size = 1 := rfl
@[simp] theorem Try.bytes6 : Try.t6.bytes = 1 := rfl
@[simp] theorem Try.zero6 : Try.t6.zero = some (.int .u8 0) := rfl
attribute [simp] Try.underlying6
@[simp] theorem Try.info7 : Try.prog.info? 7 = some Try.t7 := Try.type7
@[simp] theorem Try.size7 : Try.t7.size = 4 := rfl
@[simp] theorem Try.bytes7 : Try.t7.bytes = 24 := rfl
@[simp] theorem Try.zero7 : Try.t7.zero = some (.agg #[.int .i64 0, .int .i64 0, .bool false, .int .u8 0]) := rfl
attribute [simp] Try.underlying7
@[simp] theorem Try.info8 : Try.prog.info? 8 = some Try.t8 := Try.type8
@[simp] theorem Try.size8 : Try.t8.size = 4 := rfl
@[simp] theorem Try.bytes8 : Try.t8.bytes = 24 := rfl
@[simp] theorem Try.zero8 : Try.t8.zero = some (.agg #[.int .i64 0, .int .i64 0, .bool false, .int .u8 0]) := rfl
attribute [simp] Try.underlying8
@[simp] theorem Try.info9 : Try.prog.info? 9 = some Try.t9 := Try.type9
@[simp] theorem Try.size9 : Try.t9.size = 1 := rfl
@[simp] theorem Try.bytes9 : Try.t9.bytes = 16 := rfl
@[simp] theorem Try.zero9 : Try.t9.zero = some (.string ⟨#[]⟩) := rfl
attribute [simp] Try.underlying9
@[simp] theorem Try.info10 : Try.prog.info? 10 = some Try.t10 := Try.type10
@[simp] theorem Try.size10 : Try.t10.size = 1 := rfl
@[simp] theorem Try.bytes10 : Try.t10.bytes = 16 := rfl
@[simp] theorem Try.zero10 : Try.t10.zero = some (.string ⟨#[]⟩) := rfl
attribute [simp] Try.underlying10
@[simp] theorem Try.info11 : Try.prog.info? 11 = some Try.t11 := Try.type11
@[simp] theorem Try.size11 : Try.t11.size = 1 := rfl
@[simp] theorem Try.bytes11 : Try.t11.bytes = 16 := rfl
@[simp] theorem Try.zero11 : Try.t11.zero = some (.string ⟨#[]⟩) := rfl
attribute [simp] Try.underlying11
@[simp] theorem Try.info12 : Try.prog.info? 12 = some Try.t12 := Try.type12
@[simp] theorem Try.size12 : Try.t12.size = 1 := rfl
@[simp] theorem Try.bytes12 : Try.t12.bytes = 8 := rfl
@[simp] theorem Try.zero12 : Try.t12.zero = some (.int .u64 0) := rfl
attribute [simp] Try.underlying12
@[simp] theorem Try.info13 : Try.prog.info? 13 = some Try.t13 := Try.type13
@[simp] theorem Try.size13 : Try.t13.size = 2 := rfl
@[simp] theorem Try.bytes13 : Try.t13.bytes = 24 := rfl
@[simp] theorem Try.zero13 : Try.t13.zero = some (.agg #[.string ⟨#[]⟩, .int .u64 0]) := rfl
attribute [simp] Try.underlying13
@[simp] theorem Try.info14 : Try.prog.info? 14 = some Try.t14 := Try.type14
@[simp] theorem Try.size14 : Try.t14.size = 2 := rfl
@[simp] theorem Try.bytes14 : Try.t14.bytes = 24 := rfl
@[simp] theorem Try.zero14 : Try.t14.zero = some (.agg #[.string ⟨#[]⟩, .int .u64 0]) := rfl
attribute [simp] Try.underlying14
@[simp] theorem Try.info15 : Try.prog.info? 15 = some Try.t15 := Try.type15
@[simp] theorem Try.size15 : Try.t15.size = 1 := rfl
@[simp] theorem Try.bytes15 : Try.t15.bytes = 8 := rfl
@[simp] theorem Try.zero15 : Try.t15.zero = some (.pointer none) := rfl
attribute [simp] Try.underlying15
@[simp] theorem Try.info16 : Try.prog.info? 16 = some Try.t16 := Try.type16
@[simp] theorem Try.size16 : Try.t16.size = 1 := rfl
@[simp] theorem Try.bytes16 : Try.t16.bytes = 8 := rfl
@[simp] theorem Try.zero16 : Try.t16.zero = some (.pointer none) := rfl
attribute [simp] Try.underlying16
@[simp] theorem Try.info17 : Try.prog.info? 17 = some Try.t17 := Try.type17
@[simp] theorem Try.size17 : Try.t17.size = 1 := rfl
@[simp] theorem Try.bytes17 : Try.t17.bytes = 8 := rfl
@[simp] theorem Try.zero17 : Try.t17.zero = some (.pointer none) := rfl
attribute [simp] Try.underlying17
@[simp] theorem Try.info18 : Try.prog.info? 18 = some Try.t18 := Try.type18
@[simp] theorem Try.size18 : Try.t18.size = 1 := rfl
@[simp] theorem Try.bytes18 : Try.t18.bytes = 8 := rfl
@[simp] theorem Try.zero18 : Try.t18.zero = some (.agg #[.pointer none]) := rfl
attribute [simp] Try.underlying18
@[simp] theorem Try.info19 : Try.prog.info? 19 = some Try.t19 := Try.type19
@[simp] theorem Try.size19 : Try.t19.size = 1 := rfl
@[simp] theorem Try.bytes19 : Try.t19.bytes = 8 := rfl
@[simp] theorem Try.zero19 : Try.t19.zero = some (.agg #[.pointer none]) := rfl
attribute [simp] Try.underlying19
@[simp] theorem Try.info20 : Try.prog.info? 20 = some Try.t20 := Try.type20
@[simp] theorem Try.size20 : Try.t20.size = 1 := rfl
@[simp] theorem Try.bytes20 : Try.t20.bytes = 16 := rfl
@[simp] theorem Try.zero20 : Try.t20.zero = some (.nilIface) := rfl
attribute [simp] Try.underlying20
@[simp] theorem Try.info21 : Try.prog.info? 21 = some Try.t21 := Try.type21
@[simp] theorem Try.size21 : Try.t21.size = 1 := rfl
@[simp] theorem Try.bytes21 : Try.t21.bytes = 4 := rfl
@[simp] theorem Try.zero21 : Try.t21.zero = some (.int .i32 0) := rfl
attribute [simp] Try.underlying21
@[simp] theorem Try.info22 : Try.prog.info? 22 = some Try.t22 := Try.type22
@[simp] theorem Try.size22 : Try.t22.size = 1 := rfl
@[simp] theorem Try.bytes22 : Try.t22.bytes = 24 := rfl
@[simp] theorem Try.zero22 : Try.t22.zero = some (.slice none 0 0) := rfl
attribute [simp] Try.underlying22
@[simp] theorem Try.info23 : Try.prog.info? 23 = some Try.t23 := Try.type23
@[simp] theorem Try.size23 : Try.t23.size = 1 := rfl
@[simp] theorem Try.bytes23 : Try.t23.bytes = 8 := rfl
@[simp] theorem Try.zero23 : Try.t23.zero = some (.nilFunc) := rfl
attribute [simp] Try.underlying23
@[simp] theorem Try.info24 : Try.prog.info? 24 = some Try.t24 := Try.type24
@[simp] theorem Try.size24 : Try.t24.size = 1 := rfl
@[simp] theorem Try.bytes24 : Try.t24.bytes = 8 := rfl
@[simp] theorem Try.zero24 : Try.t24.zero = some (.nilFunc) := rfl
attribute [simp] Try.underlying24
@[simp] theorem Try.info25 : Try.prog.info? 25 = some Try.t25 := Try.type25
@[simp] theorem Try.size25 : Try.t25.size = 1 := rfl
@[simp] theorem Try.bytes25 : Try.t25.bytes = 8 := rfl
@[simp] theorem Try.zero25 : Try.t25.zero = some (.nilFunc) := rfl
attribute [simp] Try.underlying25
@[simp] theorem Try.info26 : Try.prog.info? 26 = some Try.t26 := Try.type26
@[simp] theorem Try.size26 : Try.t26.size = 1 := rfl
@[simp] theorem Try.bytes26 : Try.t26.bytes = 8 := rfl
@[simp] theorem Try.zero26 : Try.t26.zero = some (.nilFunc) := rfl
attribute [simp] Try.underlying26
@[simp] theorem Try.info27 : Try.prog.info? 27 = some Try.t27 := Try.type27
@[simp] theorem Try.size27 : Try.t27.size = 1 := rfl
@[simp] theorem Try.bytes27 : Try.t27.bytes = 24 := rfl
@[simp] theorem Try.zero27 : Try.t27.zero = some (.slice none 0 0) := rfl
attribute [simp] Try.underlying27
@[simp] theorem Try.info28 : Try.prog.info? 28 = some Try.t28 := Try.type28
@[simp] theorem Try.size28 : Try.t28.size = 1 := rfl
@[simp] theorem Try.bytes28 : Try.t28.bytes = 8 := rfl
@[simp] theorem Try.zero28 : Try.t28.zero = some (.pointer none) := rfl
attribute [simp] Try.underlying28
@[simp] theorem Try.info29 : Try.prog.info? 29 = some Try.t29 := Try.type29
@[simp] theorem Try.size29 : Try.t29.size = 1 := rfl
@[simp] theorem Try.bytes29 : Try.t29.bytes = 8 := rfl
@[simp] theorem Try.zero29 : Try.t29.zero = some (.pointer none) := rfl
attribute [simp] Try.underlying29
@[simp] theorem Try.info30 : Try.prog.info? 30 = some Try.t30 := Try.type30
@[simp] theorem Try.size30 : Try.t30.size = 2 := rfl
@[simp] theorem Try.bytes30 : Try.t30.bytes = 16 := rfl
@[simp] theorem Try.zero30 : Try.t30.zero = some (.agg #[.pointer none, .pointer none]) := rfl
attribute [simp] Try.underlying30
@[simp] theorem Try.info31 : Try.prog.info? 31 = some Try.t31 := Try.type31
@[simp] theorem Try.size31 : Try.t31.size = 2 := rfl
@[simp] theorem Try.bytes31 : Try.t31.bytes = 16 := rfl
@[simp] theorem Try.zero31 : Try.t31.zero = some (.agg #[.pointer none, .pointer none]) := rfl
attribute [simp] Try.underlying31
@[simp] theorem Try.info32 : Try.prog.info? 32 = some Try.t32 := Try.type32
@[simp] theorem Try.size32 : Try.t32.size = 1 := rfl
@[simp] theorem Try.bytes32 : Try.t32.bytes = 0 := rfl
@[simp] theorem Try.zero32 : Try.t32.zero = some (.tuple #[.agg #[.pointer none, .pointer none], .bool false]) := rfl
attribute [simp] Try.underlying32
@[simp] theorem Try.info33 : Try.prog.info? 33 = some Try.t33 := Try.type33
@[simp] theorem Try.size33 : Try.t33.size = 1 := rfl
@[simp] theorem Try.bytes33 : Try.t33.bytes = 8 := rfl
@[simp] theorem Try.zero33 : Try.t33.zero = some (.nilFunc) := rfl
attribute [simp] Try.underlying33
@[simp] theorem Try.info34 : Try.prog.info? 34 = some Try.t34 := Try.type34
@[simp] theorem Try.size34 : Try.t34.size = 4 := rfl
@[simp] theorem Try.bytes34 : Try.t34.bytes = 32 := rfl
@[simp] theorem Try.zero34 : Try.t34.zero = some (.agg #[.int .i64 0, .int .i64 0, .int .i64 0, .int .i64 0]) := rfl
attribute [simp] Try.underlying34
@[simp] theorem Try.info35 : Try.prog.info? 35 = some Try.t35 := Try.type35
@[simp] theorem Try.size35 : Try.t35.size = 13 := rfl
@[simp] theorem Try.bytes35 : Try.t35.bytes = 104 := rfl
@[simp] theorem Try.zero35 : Try.t35.zero = some (.agg #[.int .i64 0, .int .i64 0, .int .i64 0, .int .i64 0, .int .i64 0, .int .i64 0, .int .i64 0, .int .i64 0, .int .i64 0, .int .i64 0, .int .i64 0, .int .i64 0, .bool false]) := rfl
attribute [simp] Try.underlying35
@[simp] theorem Try.info36 : Try.prog.info? 36 = some Try.t36 := Try.type36
@[simp] theorem Try.size36 : Try.t36.size = 13 := rfl
@[simp] theorem Try.bytes36 : Try.t36.bytes = 104 := rfl
@[simp] theorem Try.zero36 : Try.t36.zero = some (.agg #[.int .i64 0, .int .i64 0, .int .i64 0, .int .i64 0, .int .i64 0, .int .i64 0, .int .i64 0, .int .i64 0, .int .i64 0, .int .i64 0, .int .i64 0, .int .i64 0, .bool false]) := rfl
attribute [simp] Try.underlying36
@[simp] theorem Try.info37 : Try.prog.info? 37 = some Try.t37 := Try.type37
@[simp] theorem Try.size37 : Try.t37.size = 1 := rfl
@[simp] theorem Try.bytes37 : Try.t37.bytes = 8 := rfl
@[simp] theorem Try.zero37 : Try.t37.zero = some (.nilFunc) := rfl
attribute [simp] Try.underlying37
@[simp] theorem Try.info38 : Try.prog.info? 38 = some Try.t38 := Try.type38
@[simp] theorem Try.size38 : Try.t38.size = 1 := rfl
@[simp] theorem Try.bytes38 : Try.t38.bytes = 8 := rfl
@[simp] theorem Try.zero38 : Try.t38.zero = some (.int .u64 0) := rfl
attribute [simp] Try.underlying38
@[simp] theorem Try.info39 : Try.prog.info? 39 = some Try.t39 := Try.type39
@[simp] theorem Try.size39 : Try.t39.size = 1 := rfl
@[simp] theorem Try.bytes39 : Try.t39.bytes = 8 := rfl
@[simp] theorem Try.zero39 : Try.t39.zero = some (.int .i64 0) := rfl
attribute [simp] Try.underlying39
@[simp] theorem Try.info40 : Try.prog.info? 40 = some Try.t40 := Try.type40
@[simp] theorem Try.size40 : Try.t40.size = 1 := rfl
@[simp] theorem Try.bytes40 : Try.t40.bytes = 0 := rfl
@[simp] theorem Try.zero40 : Try.t40.zero = some (.tuple #[.int .u64 0, .int .i64 0]) := rfl
attribute [simp] Try.underlying40
@[simp] theorem Try.info41 : Try.prog.info? 41 = some Try.t41 := Try.type41
@[simp] theorem Try.size41 : Try.t41.size = 1 := rfl
@[simp] theorem Try.bytes41 : Try.t41.bytes = 8 := rfl
@[simp] theorem Try.zero41 : Try.t41.zero = some (.nilFunc) := rfl
attribute [simp] Try.underlying41
@[simp] theorem Try.info42 : Try.prog.info? 42 = some Try.t42 := Try.type42
@[simp] theorem Try.size42 : Try.t42.size = 1 := rfl
@[simp] theorem Try.bytes42 : Try.t42.bytes = 8 := rfl
@[simp] theorem Try.zero42 : Try.t42.zero = some (.nilFunc) := rfl
attribute [simp] Try.underlying42
@[simp] theorem Try.info43 : Try.prog.info? 43 = some Try.t43 := Try.type43
@[simp] theorem Try.size43 : Try.t43.size = 1 := rfl
@[simp] theorem Try.bytes43 : Try.t43.bytes = 8 := rfl
@[simp] theorem Try.zero43 : Try.t43.zero = some (.nilFunc) := rfl
attribute [simp] Try.underlying43
@[simp] theorem Try.info44 : Try.prog.info? 44 = some Try.t44 := Try.type44
@[simp] theorem Try.size44 : Try.t44.size = 1 := rfl
@[simp] theorem Try.bytes44 : Try.t44.bytes = 8 := rfl
@[simp] theorem Try.zero44 : Try.t44.zero = some (.nilFunc) := rfl
attribute [simp] Try.underlying44
@[simp] theorem Try.info45 : Try.prog.info? 45 = some Try.t45 := Try.type45
@[simp] theorem Try.size45 : Try.t45.size = 1 := rfl
@[simp] theorem Try.bytes45 : Try.t45.bytes = 8 := rfl
@[simp] theorem Try.zero45 : Try.t45.zero = some (.pointer none) := rfl
attribute [simp] Try.underlying45
@[simp] theorem Try.info46 : Try.prog.info? 46 = some Try.t46 := Try.type46
@[simp] theorem Try.size46 : Try.t46.size = 3 := rfl
@[simp] theorem Try.bytes46 : Try.t46.bytes = 24 := rfl
@[simp] theorem Try.zero46 : Try.t46.zero = some (.agg #[.pointer none, .pointer none, .pointer none]) := rfl
attribute [simp] Try.underlying46
@[simp] theorem Try.info47 : Try.prog.info? 47 = some Try.t47 := Try.type47
@[simp] theorem Try.size47 : Try.t47.size = 1 := rfl
@[simp] theorem Try.bytes47 : Try.t47.bytes = 8 := rfl
@[simp] theorem Try.zero47 : Try.t47.zero = some (.pointer none) := rfl
attribute [simp] Try.underlying47
@[simp] theorem Try.info48 : Try.prog.info? 48 = some Try.t48 := Try.type48
@[simp] theorem Try.size48 : Try.t48.size = 3 := rfl
@[simp] theorem Try.bytes48 : Try.t48.bytes = 24 := rfl
@[simp] theorem Try.zero48 : Try.t48.zero = some (.agg #[.pointer none, .pointer none, .pointer none]) := rfl
attribute [simp] Try.underlying48
@[simp] theorem Try.info49 : Try.prog.info? 49 = some Try.t49 := Try.type49
@[simp] theorem Try.size49 : Try.t49.size = 1 := rfl
@[simp] theorem Try.bytes49 : Try.t49.bytes = 8 := rfl
@[simp] theorem Try.zero49 : Try.t49.zero = some (.pointer none) := rfl
attribute [simp] Try.underlying49
@[simp] theorem Try.info50 : Try.prog.info? 50 = some Try.t50 := Try.type50
@[simp] theorem Try.size50 : Try.t50.size = 3 := rfl
@[simp] theorem Try.bytes50 : Try.t50.bytes = 24 := rfl
@[simp] theorem Try.zero50 : Try.t50.zero = some (.agg #[.pointer none, .pointer none, .pointer none]) := rfl
attribute [simp] Try.underlying50
@[simp] theorem Try.info51 : Try.prog.info? 51 = some Try.t51 := Try.type51
@[simp] theorem Try.size51 : Try.t51.size = 1 := rfl
@[simp] theorem Try.bytes51 : Try.t51.bytes = 8 := rfl
@[simp] theorem Try.zero51 : Try.t51.zero = some (.pointer none) := rfl
attribute [simp] Try.underlying51
@[simp] theorem Try.info52 : Try.prog.info? 52 = some Try.t52 := Try.type52
@[simp] theorem Try.size52 : Try.t52.size = 3 := rfl
@[simp] theorem Try.bytes52 : Try.t52.bytes = 24 := rfl
@[simp] theorem Try.zero52 : Try.t52.zero = some (.agg #[.pointer none, .pointer none, .pointer none]) := rfl
attribute [simp] Try.underlying52
@[simp] theorem Try.info53 : Try.prog.info? 53 = some Try.t53 := Try.type53
@[simp] theorem Try.size53 : Try.t53.size = 1 := rfl
@[simp] theorem Try.bytes53 : Try.t53.bytes = 8 := rfl
@[simp] theorem Try.zero53 : Try.t53.zero = some (.nilFunc) := rfl
attribute [simp] Try.underlying53
@[simp] theorem Try.info54 : Try.prog.info? 54 = some Try.t54 := Try.type54
@[simp] theorem Try.size54 : Try.t54.size = 1 := rfl
@[simp] theorem Try.bytes54 : Try.t54.bytes = 8 := rfl
@[simp] theorem Try.zero54 : Try.t54.zero = some (.nilFunc) := rfl
attribute [simp] Try.underlying54
@[simp] theorem Try.info55 : Try.prog.info? 55 = some Try.t55 := Try.type55
@[simp] theorem Try.size55 : Try.t55.size = 1 := rfl
@[simp] theorem Try.bytes55 : Try.t55.bytes = 8 := rfl
@[simp] theorem Try.zero55 : Try.t55.zero = some (.nilFunc) := rfl
attribute [simp] Try.underlying55
@[simp] theorem Try.info56 : Try.prog.info? 56 = some Try.t56 := Try.type56
@[simp] theorem Try.size56 : Try.t56.size = 1 := rfl
@[simp] theorem Try.bytes56 : Try.t56.bytes = 8 := rfl
@[simp] theorem Try.zero56 : Try.t56.zero = some (.nilFunc) := rfl
attribute [simp] Try.underlying56
@[simp] theorem Try.info57 : Try.prog.info? 57 = some Try.t57 := Try.type57
@[simp] theorem Try.size57 : Try.t57.size = 1 := rfl
@[simp] theorem Try.bytes57 : Try.t57.bytes = 24 := rfl
@[simp] theorem Try.zero57 : Try.t57.zero = some (.slice none 0 0) := rfl
attribute [simp] Try.underlying57
@[simp] theorem Try.info58 : Try.prog.info? 58 = some Try.t58 := Try.type58
@[simp] theorem Try.size58 : Try.t58.size = 1 := rfl
@[simp] theorem Try.bytes58 : Try.t58.bytes = 8 := rfl
@[simp] theorem Try.zero58 : Try.t58.zero = some (.nilFunc) := rfl
attribute [simp] Try.underlying58
@[simp] theorem Try.info59 : Try.prog.info? 59 = some Try.t59 := Try.type59
@[simp] theorem Try.size59 : Try.t59.size = 5 := rfl
@[simp] theorem Try.bytes59 : Try.t59.bytes = 72 := rfl
@[simp] theorem Try.zero59 : Try.t59.zero = some (.agg #[.int .i64 0, .slice none 0 0, .slice none 0 0, .bool false, .int .u64 0]) := rfl
attribute [simp] Try.underlying59
@[simp] theorem Try.info60 : Try.prog.info? 60 = some Try.t60 := Try.type60
@[simp] theorem Try.size60 : Try.t60.size = 5 := rfl
@[simp] theorem Try.bytes60 : Try.t60.bytes = 72 := rfl
@[simp] theorem Try.zero60 : Try.t60.zero = some (.agg #[.int .i64 0, .slice none 0 0, .slice none 0 0, .bool false, .int .u64 0]) := rfl
attribute [simp] Try.underlying60
@[simp] theorem Try.info61 : Try.prog.info? 61 = some Try.t61 := Try.type61
@[simp] theorem Try.size61 : Try.t61.size = 6 := rfl
@[simp] theorem Try.bytes61 : Try.t61.bytes = 48 := rfl
@[simp] theorem Try.zero61 : Try.t61.zero = some (.agg #[.int .i64 0, .int .i64 0, .int .i64 0, .int .u64 0, .int .u64 0, .bool false]) := rfl
attribute [simp] Try.underlying61
@[simp] theorem Try.info62 : Try.prog.info? 62 = some Try.t62 := Try.type62
@[simp] theorem Try.size62 : Try.t62.size = 6 := rfl
@[simp] theorem Try.bytes62 : Try.t62.bytes = 48 := rfl
@[simp] theorem Try.zero62 : Try.t62.zero = some (.agg #[.int .i64 0, .int .i64 0, .int .i64 0, .int .u64 0, .int .u64 0, .bool false]) := rfl
attribute [simp] Try.underlying62
@[simp] theorem Try.info63 : Try.prog.info? 63 = some Try.t63 := Try.type63
@[simp] theorem Try.size63 : Try.t63.size = 1 := rfl
@[simp] theorem Try.bytes63 : Try.t63.bytes = 8 := rfl
@[simp] theorem Try.zero63 : Try.t63.zero = some (.nilFunc) := rfl
attribute [simp] Try.underlying63
@[simp] theorem Try.info64 : Try.prog.info? 64 = some Try.t64 := Try.type64
@[simp] theorem Try.size64 : Try.t64.size = 1 := rfl
@[simp] theorem Try.bytes64 : Try.t64.bytes = 8 := rfl
@[simp] theorem Try.zero64 : Try.t64.zero = some (.nilFunc) := rfl
attribute [simp] Try.underlying64
@[simp] theorem Try.info65 : Try.prog.info? 65 = some Try.t65 := Try.type65
@[simp] theorem Try.size65 : Try.t65.size = 1 := rfl
@[simp] theorem Try.bytes65 : Try.t65.bytes = 8 := rfl
@[simp] theorem Try.zero65 : Try.t65.zero = some (.nilFunc) := rfl
attribute [simp] Try.underlying65
@[simp] theorem Try.info66 : Try.prog.info? 66 = some Try.t66 := Try.type66
@[simp] theorem Try.size66 : Try.t66.size = 1 := rfl
@[simp] theorem Try.bytes66 : Try.t66.bytes = 8 := rfl
@[simp] theorem Try.zero66 : Try.t66.zero = some (.nilFunc) := rfl
attribute [simp] Try.underlying66
@[simp] theorem Try.info67 : Try.prog.info? 67 = some Try.t67 := Try.type67
@[simp] theorem Try.size67 : Try.t67.size = 1 := rfl
@[simp] theorem Try.bytes67 : Try.t67.bytes = 8 := rfl
@[simp] theorem Try.zero67 : Try.t67.zero = some (.nilFunc) := rfl
attribute [simp] Try.underlying67
@[simp] theorem Try.info68 : Try.prog.info? 68 = some Try.t68 := Try.type68
@[simp] theorem Try.size68 : Try.t68.size = 8 := rfl
@[simp] theorem Try.bytes68 : Try.t68.bytes = 144 := rfl
@[simp] theorem Try.zero68 : Try.t68.zero = some (.agg #[.slice none 0 0, .slice none 0 0, .int .u64 0, .int .u64 0, .int .u64 0, .slice none 0 0, .slice none 0 0, .slice none 0 0]) := rfl
attribute [simp] Try.underlying68
@[simp] theorem Try.info69 : Try.prog.info? 69 = some Try.t69 := Try.type69
@[simp] theorem Try.size69 : Try.t69.size = 8 := rfl
@[simp] theorem Try.bytes69 : Try.t69.bytes = 144 := rfl
@[simp] theorem Try.zero69 : Try.t69.zero = some (.agg #[.slice none 0 0, .slice none 0 0, .int .u64 0, .int .u64 0, .int .u64 0, .slice none 0 0, .slice none 0 0, .slice none 0 0]) := rfl
attribute [simp] Try.underlying69
@[simp] theorem Try.info70 : Try.prog.info? 70 = some Try.t70 := Try.type70
@[simp] theorem Try.size70 : Try.t70.size = 1 := rfl
@[simp] theorem Try.bytes70 : Try.t70.bytes = 8 := rfl
@[simp] theorem Try.zero70 : Try.t70.zero = some (.nilFunc) := rfl
attribute [simp] Try.underlying70
@[simp] theorem Try.info71 : Try.prog.info? 71 = some Try.t71 := Try.type71
@[simp] theorem Try.size71 : Try.t71.size = 6 := rfl
@[simp] theorem Try.bytes71 : Try.t71.bytes = 48 := rfl
@[simp] theorem Try.zero71 : Try.t71.zero = some (.agg #[.int .i64 0, .int .i64 0, .int .i64 0, .int .i64 0, .int .i64 0, .int .i64 0]) := rfl
attribute [simp] Try.underlying71
@[simp] theorem Try.info72 : Try.prog.info? 72 = some Try.t72 := Try.type72
@[simp] theorem Try.size72 : Try.t72.size = 1 := rfl
@[simp] theorem Try.bytes72 : Try.t72.bytes = 8 := rfl
@[simp] theorem Try.zero72 : Try.t72.zero = some (.nilFunc) := rfl
attribute [simp] Try.underlying72
@[simp] theorem Try.info73 : Try.prog.info? 73 = some Try.t73 := Try.type73
@[simp] theorem Try.size73 : Try.t73.size = 1 := rfl
@[simp] theorem Try.bytes73 : Try.t73.bytes = 8 := rfl
@[simp] theorem Try.zero73 : Try.t73.zero = some (.nilFunc) := rfl
attribute [simp] Try.underlying73
@[simp] theorem Try.info74 : Try.prog.info? 74 = some Try.t74 := Try.type74
@[simp] theorem Try.size74 : Try.t74.size = 3 := rfl
@[simp] theorem Try.bytes74 : Try.t74.bytes = 3 := rfl
@[simp] theorem Try.zero74 : Try.t74.zero = some (.agg #[.bool false, .bool false, .bool false]) := rfl
attribute [simp] Try.underlying74
@[simp] theorem Try.info75 : Try.prog.info? 75 = some Try.t75 := Try.type75
@[simp] theorem Try.size75 : Try.t75.size = 1 := rfl
@[simp] theorem Try.bytes75 : Try.t75.bytes = 8 := rfl
@[simp] theorem Try.zero75 : Try.t75.zero = some (.nilFunc) := rfl
attribute [simp] Try.underlying75
@[simp] theorem Try.info76 : Try.prog.info? 76 = some Try.t76 := Try.type76
@[simp] theorem Try.size76 : Try.t76.size = 1 := rfl
@[simp] theorem Try.bytes76 : Try.t76.bytes = 0 := rfl
@[simp] theorem Try.zero76 : Try.t76.zero = some (.tuple #[.pointer none, .int .i64 0]) := rfl
attribute [simp] Try.underlying76
@[simp] theorem Try.info77 : Try.prog.info? 77 = some Try.t77 := Try.type77
@[simp] theorem Try.size77 : Try.t77.size = 1 := rfl
@[simp] theorem Try.bytes77 : Try.t77.bytes = 8 := rfl
@[simp] theorem Try.zero77 : Try.t77.zero = some (.nilFunc) := rfl
attribute [simp] Try.underlying77
@[simp] theorem Try.info78 : Try.prog.info? 78 = some Try.t78 := Try.type78
@[simp] theorem Try.size78 : Try.t78.size = 1 := rfl
@[simp] theorem Try.bytes78 : Try.t78.bytes = 8 := rfl
@[simp] theorem Try.zero78 : Try.t78.zero = some (.nilFunc) := rfl
attribute [simp] Try.underlying78
@[simp] theorem Try.info79 : Try.prog.info? 79 = some Try.t79 := Try.type79
@[simp] theorem Try.size79 : Try.t79.size = 1 := rfl
@[simp] theorem Try.bytes79 : Try.t79.bytes = 8 := rfl
@[simp] theorem Try.zero79 : Try.t79.zero = some (.nilFunc) := rfl
attribute [simp] Try.underlying79
@[simp] theorem Try.info80 : Try.prog.info? 80 = some Try.t80 := Try.type80
@[simp] theorem Try.size80 : Try.t80.size = 1 := rfl
@[simp] theorem Try.bytes80 : Try.t80.bytes = 8 := rfl
@[simp] theorem Try.zero80 : Try.t80.zero = some (.int .u64 0) := rfl
attribute [simp] Try.underlying80
@[simp] theorem Try.info81 : Try.prog.info? 81 = some Try.t81 := Try.type81
@[simp] theorem Try.size81 : Try.t81.size = 1 := rfl
@[simp] theorem Try.bytes81 : Try.t81.bytes = 0 := rfl
@[simp] theorem Try.zero81 : Try.t81.zero = some (.tuple #[.agg #[.int .i64 0, .int .i64 0, .int .i64 0, .int .u64 0, .int .u64 0, .bool false], .int .i64 0]) := rfl
attribute [simp] Try.underlying81
@[simp] theorem Try.info82 : Try.prog.info? 82 = some Try.t82 := Try.type82
@[simp] theorem Try.size82 : Try.t82.size = 1 := rfl
@[simp] theorem Try.bytes82 : Try.t82.bytes = 8 := rfl
@[simp] theorem Try.zero82 : Try.t82.zero = some (.nilFunc) := rfl
attribute [simp] Try.underlying82
@[simp] theorem Try.info83 : Try.prog.info? 83 = some Try.t83 := Try.type83
@[simp] theorem Try.size83 : Try.t83.size = 1 := rfl
@[simp] theorem Try.bytes83 : Try.t83.bytes = 8 := rfl
@[simp] theorem Try.zero83 : Try.t83.zero = some (.nilFunc) := rfl
attribute [simp] Try.underlying83
@[simp] theorem Try.info84 : Try.prog.info? 84 = some Try.t84 := Try.type84
@[simp] theorem Try.size84 : Try.t84.size = 5 := rfl
@[simp] theorem Try.bytes84 : Try.t84.bytes = 72 := rfl
@[simp] theorem Try.zero84 : Try.t84.zero = some (.agg #[.int .i64 0, .slice none 0 0, .slice none 0 0, .int .u64 0, .bool false]) := rfl
attribute [simp] Try.underlying84
@[simp] theorem Try.info85 : Try.prog.info? 85 = some Try.t85 := Try.type85
@[simp] theorem Try.size85 : Try.t85.size = 5 := rfl
@[simp] theorem Try.bytes85 : Try.t85.bytes = 72 := rfl
@[simp] theorem Try.zero85 : Try.t85.zero = some (.agg #[.int .i64 0, .slice none 0 0, .slice none 0 0, .int .u64 0, .bool false]) := rfl
attribute [simp] Try.underlying85
@[simp] theorem Try.info86 : Try.prog.info? 86 = some Try.t86 := Try.type86
@[simp] theorem Try.size86 : Try.t86.size = 1 := rfl
@[simp] theorem Try.bytes86 : Try.t86.bytes = 8 := rfl
@[simp] theorem Try.zero86 : Try.t86.zero = some (.nilFunc) := rfl
attribute [simp] Try.underlying86
@[simp] theorem Try.info87 : Try.prog.info? 87 = some Try.t87 := Try.type87
@[simp] theorem Try.size87 : Try.t87.size = 1 := rfl
@[simp] theorem Try.bytes87 : Try.t87.bytes = 8 := rfl
@[simp] theorem Try.zero87 : Try.t87.zero = some (.nilFunc) := rfl
attribute [simp] Try.underlying87
@[simp] theorem Try.info88 : Try.prog.info? 88 = some Try.t88 := Try.type88
@[simp] theorem Try.size88 : Try.t88.size = 1 := rfl
@[simp] theorem Try.bytes88 : Try.t88.bytes = 8 := rfl
@[simp] theorem Try.zero88 : Try.t88.zero = some (.nilFunc) := rfl
attribute [simp] Try.underlying88
@[simp] theorem Try.info89 : Try.prog.info? 89 = some Try.t89 := Try.type89
@[simp] theorem Try.size89 : Try.t89.size = 1 := rfl
@[simp] theorem Try.bytes89 : Try.t89.bytes = 8 := rfl
@[simp] theorem Try.zero89 : Try.t89.zero = some (.nilFunc) := rfl
attribute [simp] Try.underlying89
@[simp] theorem Try.info90 : Try.prog.info? 90 = some Try.t90 := Try.type90
@[simp] theorem Try.size90 : Try.t90.size = 1 := rfl
@[simp] theorem Try.bytes90 : Try.t90.bytes = 8 := rfl
@[simp] theorem Try.zero90 : Try.t90.zero = some (.nilFunc) := rfl
attribute [simp] Try.underlying90
@[simp] theorem Try.info91 : Try.prog.info? 91 = some Try.t91 := Try.type91
@[simp] theorem Try.size91 : Try.t91.size = 1 := rfl
@[simp] theorem Try.bytes91 : Try.t91.bytes = 8 := rfl
@[simp] theorem Try.zero91 : Try.t91.zero = some (.nilFunc) := rfl
attribute [simp] Try.underlying91
@[simp] theorem Try.info92 : Try.prog.info? 92 = some Try.t92 := Try.type92
@[simp] theorem Try.size92 : Try.t92.size = 1 := rfl
@[simp] theorem Try.bytes92 : Try.t92.bytes = 8 := rfl
@[simp] theorem Try.zero92 : Try.t92.zero = some (.nilFunc) := rfl
attribute [simp] Try.underlying92
@[simp] theorem Try.info93 : Try.prog.info? 93 = some Try.t93 := Try.type93
@[simp] theorem Try.size93 : Try.t93.size = 21 := rfl
@[simp] theorem Try.bytes93 : Try.t93.bytes = 248 := rfl
@[simp] theorem Try.zero93 : Try.t93.zero = some (.agg #[.int .i64 0, .int .i64 0, .int .i64 0, .int .i64 0, .int .i64 0, .int .i64 0, .int .i64 0, .int .i64 0, .int .i64 0, .int .i64 0, .int .i64 0, .int .i64 0, .bool false, .slice none 0 0, .slice none 0 0, .int .u64 0, .int .u64 0, .int .u64 0, .slice none 0 0, .slice none 0 0, .slice none 0 0]) := rfl
attribute [simp] Try.underlying93
@[simp] theorem Try.info94 : Try.prog.info? 94 = some Try.t94 := Try.type94
@[simp] theorem Try.size94 : Try.t94.size = 21 := rfl
@[simp] theorem Try.bytes94 : Try.t94.bytes = 248 := rfl
@[simp] theorem Try.zero94 : Try.t94.zero = some (.agg #[.int .i64 0, .int .i64 0, .int .i64 0, .int .i64 0, .int .i64 0, .int .i64 0, .int .i64 0, .int .i64 0, .int .i64 0, .int .i64 0, .int .i64 0, .int .i64 0, .bool false, .slice none 0 0, .slice none 0 0, .int .u64 0, .int .u64 0, .int .u64 0, .slice none 0 0, .slice none 0 0, .slice none 0 0]) := rfl
attribute [simp] Try.underlying94
@[simp] theorem Try.info95 : Try.prog.info? 95 = some Try.t95 := Try.type95
@[simp] theorem Try.size95 : Try.t95.size = 2 := rfl
@[simp] theorem Try.bytes95 : Try.t95.bytes = 48 := rfl
@[simp] theorem Try.zero95 : Try.t95.zero = some (.agg #[.slice none 0 0, .slice none 0 0]) := rfl
attribute [simp] Try.underlying95
@[simp] theorem Try.info96 : Try.prog.info? 96 = some Try.t96 := Try.type96
@[simp] theorem Try.size96 : Try.t96.size = 2 := rfl
@[simp] theorem Try.bytes96 : Try.t96.bytes = 48 := rfl
@[simp] theorem Try.zero96 : Try.t96.zero = some (.agg #[.slice none 0 0, .slice none 0 0]) := rfl
attribute [simp] Try.underlying96
@[simp] theorem Try.info97 : Try.prog.info? 97 = some Try.t97 := Try.type97
@[simp] theorem Try.size97 : Try.t97.size = 4 := rfl
@[simp] theorem Try.bytes97 : Try.t97.bytes = 64 := rfl
@[simp] theorem Try.zero97 : Try.t97.zero = some (.agg #[.int .i64 0, .slice none 0 0, .slice none 0 0, .int .i64 0]) := rfl
attribute [simp] Try.underlying97
@[simp] theorem Try.info98 : Try.prog.info? 98 = some Try.t98 := Try.type98
@[simp] theorem Try.size98 : Try.t98.size = 4 := rfl
@[simp] theorem Try.bytes98 : Try.t98.bytes = 64 := rfl
@[simp] theorem Try.zero98 : Try.t98.zero = some (.agg #[.int .i64 0, .slice none 0 0, .slice none 0 0, .int .i64 0]) := rfl
attribute [simp] Try.underlying98
@[simp] theorem Try.info99 : Try.prog.info? 99 = some Try.t99 := Try.type99
@[simp] theorem Try.size99 : Try.t99.size = 1 := rfl
@[simp] theorem Try.bytes99 : Try.t99.bytes = 8 := rfl
@[simp] theorem Try.zero99 : Try.t99.zero = some (.map none) := rfl
attribute [simp] Try.underlying99
@[simp] theorem Try.info100 : Try.prog.info? 100 = some Try.t100 := Try.type100
@[simp] theorem Try.size100 : Try.t100.size = 1 := rfl
@[simp] theorem Try.bytes100 : Try.t100.bytes = 8 := rfl
@[simp] theorem Try.zero100 : Try.t100.zero = some (.agg #[.map none]) := rfl
attribute [simp] Try.underlying100
@[simp] theorem Try.info101 : Try.prog.info? 101 = some Try.t101 := Try.type101
@[simp] theorem Try.size101 : Try.t101.size = 1 := rfl
@[simp] theorem Try.bytes101 : Try.t101.bytes = 8 := rfl
@[simp] theorem Try.zero101 : Try.t101.zero = some (.agg #[.map none]) := rfl
attribute [simp] Try.underlying101
@[simp] theorem Try.info102 : Try.prog.info? 102 = some Try.t102 := Try.type102
@[simp] theorem Try.size102 : Try.t102.size = 1 := rfl
@[simp] theorem Try.bytes102 : Try.t102.bytes = 8 := rfl
@[simp] theorem Try.zero102 : Try.t102.zero = some (.nilFunc) := rfl
attribute [simp] Try.underlying102
@[simp] theorem Try.info103 : Try.prog.info? 103 = some Try.t103 := Try.type103
@[simp] theorem Try.size103 : Try.t103.size = 1 := rfl
@[simp] theorem Try.bytes103 : Try.t103.bytes = 8 := rfl
@[simp] theorem Try.zero103 : Try.t103.zero = some (.nilFunc) := rfl
attribute [simp] Try.underlying103
@[simp] theorem Try.info104 : Try.prog.info? 104 = some Try.t104 := Try.type104
@[simp] theorem Try.size104 : Try.t104.size = 1 := rfl
@[simp] theorem Try.bytes104 : Try.t104.bytes = 8 := rfl
@[simp] theorem Try.zero104 : Try.t104.zero = some (.nilFunc) := rfl
attribute [simp] Try.underlying104
@[simp] theorem Try.info105 : Try.prog.info? 105 = some Try.t105 := Try.type105
@[simp] theorem Try.size105 : Try.t105.size = 1 := rfl
@[simp] theorem Try.bytes105 : Try.t105.bytes = 0 := rfl
@[simp] theorem Try.zero105 : Try.t105.zero = some (.tuple #[.slice none 0 0, .slice none 0 0]) := rfl
attribute [simp] Try.underlying105
@[simp] theorem Try.info106 : Try.prog.info? 106 = some Try.t106 := Try.type106
@[simp] theorem Try.size106 : Try.t106.size = 1 := rfl
@[simp] theorem Try.bytes106 : Try.t106.bytes = 8 := rfl
@[simp] theorem Try.zero106 : Try.t106.zero = some (.nilFunc) := rfl
attribute [simp] Try.underlying106
@[simp] theorem Try.info107 : Try.prog.info? 107 = some Try.t107 := Try.type107
@[simp] theorem Try.size107 : Try.t107.size = 1 := rfl
@[simp] theorem Try.bytes107 : Try.t107.bytes = 8 := rfl
@[simp] theorem Try.zero107 : Try.t107.zero = some (.nilFunc) := rfl
attribute [simp] Try.underlying107
@[simp] theorem Try.info108 : Try.prog.info? 108 = some Try.t108 := Try.type108
@[simp] theorem Try.size108 : Try.t108.size = 1 := rfl
@[simp] theorem Try.bytes108 : Try.t108.bytes = 8 := rfl
@[simp] theorem Try.zero108 : Try.t108.zero = some (.nilFunc) := rfl
attribute [simp] Try.underlying108
@[simp] theorem Try.info109 : Try.prog.info? 109 = some Try.t109 := Try.type109
@[simp] theorem Try.size109 : Try.t109.size = 1 := rfl
@[simp] theorem Try.bytes109 : Try.t109.bytes = 8 := rfl
@[simp] theorem Try.zero109 : Try.t109.zero = some (.nilFunc) := rfl
attribute [simp] Try.underlying109
@[simp] theorem Try.info110 : Try.prog.info? 110 = some Try.t110 := Try.type110
@[simp] theorem Try.size110 : Try.t110.size = 1 := rfl
@[simp] theorem Try.bytes110 : Try.t110.bytes = 8 := rfl
@[simp] theorem Try.zero110 : Try.t110.zero = some (.nilFunc) := rfl
attribute [simp] Try.underlying110
@[simp] theorem Try.info111 : Try.prog.info? 111 = some Try.t111 := Try.type111
@[simp] theorem Try.size111 : Try.t111.size = 1 := rfl
@[simp] theorem Try.bytes111 : Try.t111.bytes = 8 := rfl
@[simp] theorem Try.zero111 : Try.t111.zero = some (.nilFunc) := rfl
attribute [simp] Try.underlying111
@[simp] theorem Try.info112 : Try.prog.info? 112 = some Try.t112 := Try.type112
@[simp] theorem Try.size112 : Try.t112.size = 1 := rfl
@[simp] theorem Try.bytes112 : Try.t112.bytes = 8 := rfl
@[simp] theorem Try.zero112 : Try.t112.zero = some (.nilFunc) := rfl
attribute [simp] Try.underlying112
@[simp] theorem Try.info113 : Try.prog.info? 113 = some Try.t113 := Try.type113
@[simp] theorem Try.size113 : Try.t113.size = 1 := rfl
@[simp] theorem Try.bytes113 : Try.t113.bytes = 8 := rfl
@[simp] theorem Try.zero113 : Try.t113.zero = some (.nilFunc) := rfl
attribute [simp] Try.underlying113
@[simp] theorem Try.info114 : Try.prog.info? 114 = some Try.t114 := Try.type114
@[simp] theorem Try.size114 : Try.t114.size = 1 := rfl
@[simp] theorem Try.bytes114 : Try.t114.bytes = 8 := rfl
@[simp] theorem Try.zero114 : Try.t114.zero = some (.nilFunc) := rfl
attribute [simp] Try.underlying114
@[simp] theorem Try.info115 : Try.prog.info? 115 = some Try.t115 := Try.type115
@[simp] theorem Try.size115 : Try.t115.size = 1 := rfl
@[simp] theorem Try.bytes115 : Try.t115.bytes = 8 := rfl
@[simp] theorem Try.zero115 : Try.t115.zero = some (.int .i64 0) := rfl
attribute [simp] Try.underlying115
@[simp] theorem Try.info116 : Try.prog.info? 116 = some Try.t116 := Try.type116
@[simp] theorem Try.size116 : Try.t116.size = 1 := rfl
@[simp] theorem Try.bytes116 : Try.t116.bytes = 0 := rfl
@[simp] theorem Try.zero116 : Try.t116.zero = some (.tuple #[.int .i64 0, .int .i64 0]) := rfl
attribute [simp] Try.underlying116
@[simp] theorem Try.info117 : Try.prog.info? 117 = some Try.t117 := Try.type117
@[simp] theorem Try.size117 : Try.t117.size = 1 := rfl
@[simp] theorem Try.bytes117 : Try.t117.bytes = 8 := rfl
@[simp] theorem Try.zero117 : Try.t117.zero = some (.nilFunc) := rfl
attribute [simp] Try.underlying117
@[simp] theorem Try.info118 : Try.prog.info? 118 = some Try.t118 := Try.type118
@[simp] theorem Try.size118 : Try.t118.size = 1 := rfl
@[simp] theorem Try.bytes118 : Try.t118.bytes = 8 := rfl
@[simp] theorem Try.zero118 : Try.t118.zero = some (.nilFunc) := rfl
attribute [simp] Try.underlying118
@[simp] theorem Try.info119 : Try.prog.info? 119 = some Try.t119 := Try.type119
@[simp] theorem Try.size119 : Try.t119.size = 1 := rfl
@[simp] theorem Try.bytes119 : Try.t119.bytes = 8 := rfl
@[simp] theorem Try.zero119 : Try.t119.zero = some (.nilFunc) := rfl
attribute [simp] Try.underlying119
@[simp] theorem Try.info120 : Try.prog.info? 120 = some Try.t120 := Try.type120
@[simp] theorem Try.size120 : Try.t120.size = 1 := rfl
@[simp] theorem Try.bytes120 : Try.t120.bytes = 0 := rfl
@[simp] theorem Try.zero120 : Try.t120.zero = some (.tuple #[.int .i64 0, .bool false]) := rfl
attribute [simp] Try.underlying120
@[simp] theorem Try.info121 : Try.prog.info? 121 = some Try.t121 := Try.type121
@[simp] theorem Try.size121 : Try.t121.size = 1 := rfl
@[simp] theorem Try.bytes121 : Try.t121.bytes = 8 := rfl
@[simp] theorem Try.zero121 : Try.t121.zero = some (.nilFunc) := rfl
attribute [simp] Try.underlying121
@[simp] theorem Try.info122 : Try.prog.info? 122 = some Try.t122 := Try.type122
@[simp] theorem Try.size122 : Try.t122.size = 1 := rfl
@[simp] theorem Try.bytes122 : Try.t122.bytes = 8 := rfl
@[simp] theorem Try.zero122 : Try.t122.zero = some (.nilFunc) := rfl
attribute [simp] Try.underlying122
@[simp] theorem Try.info123 : Try.prog.info? 123 = some Try.t123 := Try.type123
@[simp] theorem Try.size123 : Try.t123.size = 1 := rfl
@[simp] theorem Try.bytes123 : Try.t123.bytes = 4 := rfl
@[simp] theorem Try.zero123 : Try.t123.zero = some (.int .u32 0) := rfl
attribute [simp] Try.underlying123
@[simp] theorem Try.info124 : Try.prog.info? 124 = some Try.t124 := Try.type124
@[simp] theorem Try.size124 : Try.t124.size = 1 := rfl
@[simp] theorem Try.bytes124 : Try.t124.bytes = 0 := rfl
@[simp] theorem Try.zero124 : Try.t124.zero = some (.tuple #[.int .i64 0, .int .i64 0, .bool false]) := rfl
attribute [simp] Try.underlying124
@[simp] theorem Try.info125 : Try.prog.info? 125 = some Try.t125 := Try.type125
@[simp] theorem Try.size125 : Try.t125.size = 1 := rfl
@[simp] theorem Try.bytes125 : Try.t125.bytes = 8 := rfl
@[simp] theorem Try.zero125 : Try.t125.zero = some (.nilFunc) := rfl
attribute [simp] Try.underlying125
@[simp] theorem Try.info126 : Try.prog.info? 126 = some Try.t126 := Try.type126
@[simp] theorem Try.size126 : Try.t126.size = 1 := rfl
@[simp] theorem Try.bytes126 : Try.t126.bytes = 8 := rfl
@[simp] theorem Try.zero126 : Try.t126.zero = some (.nilFunc) := rfl
attribute [simp] Try.underlying126
@[simp] theorem Try.info127 : Try.prog.info? 127 = some Try.t127 := Try.type127
@[simp] theorem Try.size127 : Try.t127.size = 1 := rfl
@[simp] theorem Try.bytes127 : Try.t127.bytes = 0 := rfl
@[simp] theorem Try.zero127 : Try.t127.zero = some (.tuple #[.int .u64 0, .bool false]) := rfl
attribute [simp] Try.underlying127
@[simp] theorem Try.info128 : Try.prog.info? 128 = some Try.t128 := Try.type128
@[simp] theorem Try.size128 : Try.t128.size = 1 := rfl
@[simp] theorem Try.bytes128 : Try.t128.bytes = 8 := rfl
@[simp] theorem Try.zero128 : Try.t128.zero = some (.nilFunc) := rfl
attribute [simp] Try.underlying128
@[simp] theorem Try.info129 : Try.prog.info? 129 = some Try.t129 := Try.type129
@[simp] theorem Try.size129 : Try.t129.size = 1 := rfl
@[simp] theorem Try.bytes129 : Try.t129.bytes = 8 := rfl
@[simp] theorem Try.zero129 : Try.t129.zero = some (.nilFunc) := rfl
attribute [simp] Try.underlying129
@[simp] theorem Try.info130 : Try.prog.info? 130 = some Try.t130 := Try.type130
@[simp] theorem Try.size130 : Try.t130.size = 1 := rfl
@[simp] theorem Try.bytes130 : Try.t130.bytes = 8 := rfl
@[simp] theorem Try.zero130 : Try.t130.zero = some (.int .u64 0) := rfl
attribute [simp] Try.underlying130
@[simp] theorem Try.info131 : Try.prog.info? 131 = some Try.t131 := Try.type131
@[simp] theorem Try.size131 : Try.t131.size = 1 := rfl
@[simp] theorem Try.bytes131 : Try.t131.bytes = 8 := rfl
@[simp] theorem Try.zero131 : Try.t131.zero = some (.nilFunc) := rfl
attribute [simp] Try.underlying131
@[simp] theorem Try.info132 : Try.prog.info? 132 = some Try.t132 := Try.type132
@[simp] theorem Try.size132 : Try.t132.size = 1 := rfl
@[simp] theorem Try.bytes132 : Try.t132.bytes = 8 := rfl
@[simp] theorem Try.zero132 : Try.t132.zero = some (.nilFunc) := rfl
attribute [simp] Try.underlying132
@[simp] theorem Try.info133 : Try.prog.info? 133 = some Try.t133 := Try.type133
@[simp] theorem Try.size133 : Try.t133.size = 1 := rfl
@[simp] theorem Try.bytes133 : Try.t133.bytes = 8 := rfl
@[simp] theorem Try.zero133 : Try.t133.zero = some (.nilFunc) := rfl
attribute [simp] Try.underlying133
@[simp] theorem Try.info134 : Try.prog.info? 134 = some Try.t134 := Try.type134
@[simp] theorem Try.size134 : Try.t134.size = 1 := rfl
@[simp] theorem Try.bytes134 : Try.t134.bytes = 8 := rfl
@[simp] theorem Try.zero134 : Try.t134.zero = some (.pointer none) := rfl
attribute [simp] Try.underlying134
@[simp] theorem Try.info135 : Try.prog.info? 135 = some Try.t135 := Try.type135
@[simp] theorem Try.size135 : Try.t135.size = 1 := rfl
@[simp] theorem Try.bytes135 : Try.t135.bytes = 8 := rfl
@[simp] theorem Try.zero135 : Try.t135.zero = some (.nilFunc) := rfl
attribute [simp] Try.underlying135
@[simp] theorem Try.info136 : Try.prog.info? 136 = some Try.t136 := Try.type136
@[simp] theorem Try.size136 : Try.t136.size = 1 := rfl
@[simp] theorem Try.bytes136 : Try.t136.bytes = 8 := rfl
@[simp] theorem Try.zero136 : Try.t136.zero = some (.pointer none) := rfl
attribute [simp] Try.underlying136
@[simp] theorem Try.info137 : Try.prog.info? 137 = some Try.t137 := Try.type137
@[simp] theorem Try.size137 : Try.t137.size = 1 := rfl
@[simp] theorem Try.bytes137 : Try.t137.bytes = 0 := rfl
@[simp] theorem Try.zero137 : Try.t137.zero = some (.tuple #[.int .i64 0, .int .i64 0]) := rfl
attribute [simp] Try.underlying137
@[simp] theorem Try.info138 : Try.prog.info? 138 = some Try.t138 := Try.type138
@[simp] theorem Try.size138 : Try.t138.size = 1 := rfl
@[simp] theorem Try.bytes138 : Try.t138.bytes = 8 := rfl
@[simp] theorem Try.zero138 : Try.t138.zero = some (.nilFunc) := rfl
attribute [simp] Try.underlying138
@[simp] theorem Try.info139 : Try.prog.info? 139 = some Try.t139 := Try.type139
@[simp] theorem Try.size139 : Try.t139.size = 1 := rfl
@[simp] theorem Try.bytes139 : Try.t139.bytes = 8 := rfl
@[simp] theorem Try.zero139 : Try.t139.zero = some (.nilFunc) := rfl
attribute [simp] Try.underlying139
@[simp] theorem Try.info140 : Try.prog.info? 140 = some Try.t140 := Try.type140
@[simp] theorem Try.size140 : Try.t140.size = 4 := rfl
@[simp] theorem Try.bytes140 : Try.t140.bytes = 40 := rfl
@[simp] theorem Try.zero140 : Try.t140.zero = some (.agg #[.pointer none, .pointer none, .pointer none, .string ⟨#[]⟩]) := rfl
attribute [simp] Try.underlying140
@[simp] theorem Try.info141 : Try.prog.info? 141 = some Try.t141 := Try.type141
@[simp] theorem Try.size141 : Try.t141.size = 4 := rfl
@[simp] theorem Try.bytes141 : Try.t141.bytes = 40 := rfl
@[simp] theorem Try.zero141 : Try.t141.zero = some (.agg #[.pointer none, .pointer none, .pointer none, .string ⟨#[]⟩]) := rfl
attribute [simp] Try.underlying141
@[simp] theorem Try.info142 : Try.prog.info? 142 = some Try.t142 := Try.type142
@[simp] theorem Try.size142 : Try.t142.size = 0 := rfl
@[simp] theorem Try.bytes142 : Try.t142.bytes = 0 := rfl
@[simp] theorem Try.zero142 : Try.t142.zero = some (.agg #[]) := rfl
attribute [simp] Try.underlying142
@[simp] theorem Try.info143 : Try.prog.info? 143 = some Try.t143 := Try.type143
@[simp] theorem Try.size143 : Try.t143.size = 0 := rfl
@[simp] theorem Try.bytes143 : Try.t143.bytes = 0 := rfl
@[simp] theorem Try.zero143 : Try.t143.zero = some (.agg #[]) := rfl
attribute [simp] Try.underlying143
@[simp] theorem Try.info144 : Try.prog.info? 144 = some Try.t144 := Try.type144
@[simp] theorem Try.size144 : Try.t144.size = 0 := rfl
@[simp] theorem Try.bytes144 : Try.t144.bytes = 0 := rfl
@[simp] theorem Try.zero144 : Try.t144.zero = some (.agg #[]) := rfl
attribute [simp] Try.underlying144
@[simp] theorem Try.info145 : Try.prog.info? 145 = some Try.t145 := Try.type145
@[simp] theorem Try.size145 : Try.t145.size = 1 := rfl
@[simp] theorem Try.bytes145 : Try.t145.bytes = 8 := rfl
@[simp] theorem Try.zero145 : Try.t145.zero = some (.nilFunc) := rfl
attribute [simp] Try.underlying145
@[simp] theorem Try.info146 : Try.prog.info? 146 = some Try.t146 := Try.type146
@[simp] theorem Try.size146 : Try.t146.size = 1 := rfl
@[simp] theorem Try.bytes146 : Try.t146.bytes = 1 := rfl
@[simp] theorem Try.zero146 : Try.t146.zero = some (.int .u8 0) := rfl
attribute [simp] Try.underlying146
@[simp] theorem Try.info147 : Try.prog.info? 147 = some Try.t147 := Try.type147
@[simp] theorem Try.size147 : Try.t147.size = 1 := rfl
@[simp] theorem Try.bytes147 : Try.t147.bytes = 1 := rfl
@[simp] theorem Try.zero147 : Try.t147.zero = some (.int .u8 0) := rfl
attribute [simp] Try.underlying147
@[simp] theorem Try.info148 : Try.prog.info? 148 = some Try.t148 := Try.type148
@[simp] theorem Try.size148 : Try.t148.size = 1 := rfl
@[simp] theorem Try.bytes148 : Try.t148.bytes = 8 := rfl
@[simp] theorem Try.zero148 : Try.t148.zero = some (.nilFunc) := rfl
attribute [simp] Try.underlying148
@[simp] theorem Try.info149 : Try.prog.info? 149 = some Try.t149 := Try.type149
@[simp] theorem Try.size149 : Try.t149.size = 1 := rfl
@[simp] theorem Try.bytes149 : Try.t149.bytes = 8 := rfl
@[simp] theorem Try.zero149 : Try.t149.zero = some (.pointer none) := rfl
attribute [simp] Try.underlying149
@[simp] theorem Try.info150 : Try.prog.info? 150 = some Try.t150 := Try.type150
@[simp] theorem Try.size150 : Try.t150.size = 1 := rfl
@[simp] theorem Try.bytes150 : Try.t150.bytes = 4 := rfl
@[simp] theorem Try.zero150 : Try.t150.zero = some (.int .i32 0) := rfl
attribute [simp] Try.underlying150
@[simp] theorem Try.info151 : Try.prog.info? 151 = some Try.t151 := Try.type151
@[simp] theorem Try.size151 : Try.t151.size = 1 := rfl
@[simp] theorem Try.bytes151 : Try.t151.bytes = 4 := rfl
@[simp] theorem Try.zero151 : Try.t151.zero = some (.int .i32 0) := rfl
attribute [simp] Try.underlying151
@[simp] theorem Try.info152 : Try.prog.info? 152 = some Try.t152 := Try.type152
@[simp] theorem Try.size152 : Try.t152.size = 11 := rfl
@[simp] theorem Try.bytes152 : Try.t152.bytes = 48 := rfl
@[simp] theorem Try.zero152 : Try.t152.zero = some (.agg #[.int .u64 0, .int .u64 0, .int .u32 0, .int .u8 0, .int .u8 0, .int .u8 0, .int .u8 0, .nilFunc, .pointer none, .int .i32 0, .int .i32 0]) := rfl
attribute [simp] Try.underlying152
@[simp] theorem Try.info153 : Try.prog.info? 153 = some Try.t153 := Try.type153
@[simp] theorem Try.size153 : Try.t153.size = 11 := rfl
@[simp] theorem Try.bytes153 : Try.t153.bytes = 48 := rfl
@[simp] theorem Try.zero153 : Try.t153.zero = some (.agg #[.int .u64 0, .int .u64 0, .int .u32 0, .int .u8 0, .int .u8 0, .int .u8 0, .int .u8 0, .nilFunc, .pointer none, .int .i32 0, .int .i32 0]) := rfl
attribute [simp] Try.underlying153
@[simp] theorem Try.info154 : Try.prog.info? 154 = some Try.t154 := Try.type154
@[simp] theorem Try.size154 : Try.t154.size = 1 := rfl
@[simp] theorem Try.bytes154 : Try.t154.bytes = 8 := rfl
@[simp] theorem Try.zero154 : Try.t154.zero = some (.pointer none) := rfl
attribute [simp] Try.underlying154
@[simp] theorem Try.held62 : Try.prog.stoodInHeld 62 = false := by kernel_rfl
@[simp] theorem Try.guard62 : Try.prog.eqGuardType Try.prog.depth 62 = false := by kernel_rfl
@[simp] theorem Try.held74 : Try.prog.stoodInHeld 74 = false := by kernel_rfl
@[simp] theorem Try.guard74 : Try.prog.eqGuardType Try.prog.depth 74 = false := by kernel_rfl
attribute [simp] Try.results0
attribute [simp] Try.results1
attribute [simp] Try.results2
attribute [simp] Try.results3
attribute [simp] Try.results4
attribute [simp] Try.results5
attribute [simp] Try.results6
attribute [simp] Try.results7
attribute [simp] Try.results8
attribute [simp] Try.results9
attribute [simp] Try.results10
attribute [simp] Try.results11
attribute [simp] Try.results12
attribute [simp] Try.results13
attribute [simp] Try.results14
attribute [simp] Try.results15
attribute [simp] Try.results16
attribute [simp] Try.results17
attribute [simp] Try.results18
attribute [simp] Try.results19
attribute [simp] Try.results20
attribute [simp] Try.results21
attribute [simp] Try.results22
attribute [simp] Try.results23
attribute [simp] Try.results24
attribute [simp] Try.results25
attribute [simp] Try.results26
attribute [simp] Try.results27
attribute [simp] Try.results28
attribute [simp] Try.results29
attribute [simp] Try.results30
attribute [simp] Try.results31
attribute [simp] Try.results32
attribute [simp] Try.results33
attribute [simp] Try.results34
attribute [simp] Try.results35
attribute [simp] Try.results36
attribute [simp] Try.results37
attribute [simp] Try.results38
attribute [simp] Try.results39
attribute [simp] Try.results40
attribute [simp] Try.results41
attribute [simp] Try.results42
attribute [simp] Try.results43
attribute [simp] Try.results44
attribute [simp] Try.results45
attribute [simp] Try.results46
attribute [simp] Try.results47
attribute [simp] Try.results48
attribute [simp] Try.results49
attribute [simp] Try.results50
attribute [simp] Try.results51
attribute [simp] Try.results52
attribute [simp] Try.results53
attribute [simp] Try.results54
attribute [simp] Try.results55
attribute [simp] Try.results56
attribute [simp] Try.results57
attribute [simp] Try.results58
attribute [simp] Try.results59
attribute [simp] Try.results60
attribute [simp] Try.results61
attribute [simp] Try.results62
attribute [simp] Try.results63
attribute [simp] Try.results64
attribute [simp] Try.results65
attribute [simp] Try.results66
attribute [simp] Try.results67
attribute [simp] Try.results68
attribute [simp] Try.results69
attribute [simp] Try.results70
attribute [simp] Try.results71
attribute [simp] Try.results72
attribute [simp] Try.results73
attribute [simp] Try.results74
attribute [simp] Try.results75
attribute [simp] Try.results76
attribute [simp] Try.results77
attribute [simp] Try.results78
attribute [simp] Try.results79
attribute [simp] Try.results80
attribute [simp] Try.results81
attribute [simp] Try.results82
attribute [simp] Try.results83
attribute [simp] Try.results84
attribute [simp] Try.results85
attribute [simp] Try.results86
attribute [simp] Try.results87
attribute [simp] Try.results88
attribute [simp] Try.results89
attribute [simp] Try.results90
attribute [simp] Try.results91
attribute [simp] Try.results92
attribute [simp] Try.results93
attribute [simp] Try.results94
attribute [simp] Try.results95
attribute [simp] Try.results96
attribute [simp] Try.results97
attribute [simp] Try.results98
attribute [simp] Try.results99
attribute [simp] Try.results100
attribute [simp] Try.results101
attribute [simp] Try.results102
attribute [simp] Try.results103
attribute [simp] Try.results104
attribute [simp] Try.results105
attribute [simp] Try.results106
attribute [simp] Try.results107
theorem Try.mx : Try.prog.follows .mixedOrders = true := by kernel_rfl
end Go.Proofs
