/-
  What simp is to know of the types of this translation: sizes, zero values, underlying types; and of the results of its functions. Written by a program of ours.
-/
import Derived.Test.YtbheeehnocnhmaaRows
namespace Go.Proofs
open Go
@[simp] theorem Try.info0 : Try.prog.info? 0 = some Try.t0 := Try.type0
@[simp] theorem Try.size0 : Try.t0.size = 1 := rfl
@[simp] theorem Try.bytes0 : Try.t0.bytes = 0 := rfl
@[simp] theorem Try.zero0 : Try.t0.zero = some (.tuple #[]) := rfl
attribute [simp] Try.underlying0
@[simp] theorem Try.info1 : Try.prog.info? 1 = some Try.t1 := Try.type1
@[simp] theorem Try.size1 : Try.t1.size = 1 := rfl
@[simp] theorem Try.bytes1 : Try.t1.bytes = 8 := rfl
@[simp] theorem Try.zero1 : Try.t1.zero = some (.nilFunc) := rfl
attribute [simp] Try.underlying1
@[simp] theorem Try.info2 : Try.prog.info? 2 = some Try.t2 := Try.type2
@[simp] theorem Try.size2 : Try.t2.size = 1 := rfl
@[simp] theorem Try.bytes2 : Try.t2.bytes = 8 := rfl
@[simp] theorem Try.zero2 : Try.t2.zero = some (.int .i64 0) := rfl
attribute [simp] Try.underlying2
@[simp] theorem Try.info3 : Try.prog.info? 3 = some Try.t3 := Try.type3
@[simp] theorem Try.size3 : Try.t3.size = 1 := rfl
@[simp] theorem Try.bytes3 : Try.t3.bytes = 8 := rfl
@[simp] theorem Try.zero3 : Try.t3.zero = some (.int .i64 0) := rfl
attribute [simp] Try.underlying3
@[simp] theorem Try.info4 : Try.prog.info? 4 = some Try.t4 := Try.type4
@[simp] theorem Try.size4 : Try.t4.size = 1 := rfl
@[simp] theorem Try.bytes4 : Try.t4.bytes = 1 := rfl
@[simp] theorem Try.zero4 : Try.t4.zero = some (.bool false) := rfl
attribute [simp] Try.underlying4
@[simp] theorem Try.info5 : Try.prog.info? 5 = some Try.t5 := Try.type5
@[simp] theorem Try.size5 : Try.t5.size = 1 := rfl
@[simp] theorem Try.bytes5 : Try.t5.bytes = 1 := rfl
@[simp] theorem Try.zero5 : Try.t5.zero = some (.int .u8 0) := rfl
attribute [simp] Try.underlying5
@[simp] theorem Try.info6 : Try.prog.info? 6 = some Try.t6 := Try.type6
@[simp] theorem Try.size6 : Try.t6.size = 1 := rfl
@[simp] theorem Try.bytes6 : Try.t6.bytes = 1 := rfl
@[simp] theorem Try.zero6 : Try.t6.zero = some (.int .u8 0) := rfl
attribute [simp] Try.underlying6
@[simp] theorem Try.info7 : Try.prog.info? 7 = some Try.t7 := Try.type7
@[simp] theorem Try.size7 : Try.t7.size = 4 := rfl
@[simp] theorem Try.bytes7 : Try.t7.bytes = 24 := rfl
@[simp] theorem Try.zero7 : Try.t7.zero = some (.agg #[.int .i64 0, .int .i64 0, .bool false, .int .u8 0]) := rfl
attribute [simp] Try.underlying7
@[simp] theorem Try.info8 : Try.prog.info? 8 = some Try.t8 := Try.type8
@[simp] theorem Try.size8 : Try.t8.size = 4 := rfl
@[simp] theorem Try.bytes8 : Try.t8.bytes = 24 := rfl
@[simp] theorem Try.zero8 : Try.t8.zero = some (.agg #[.int .i64 0, .int .i64 0, .bool false, .int .u8 0]) := rfl
attribute [simp] Try.underlying8
@[simp] theorem Try.info9 : Try.prog.info? 9 = some Try.t9 := Try.type9
@[simp] theorem Try.size9 : Try.t9.size = 1 := rfl
@[simp] theorem Try.bytes9 : Try.t9.bytes = 16 := rfl
@[simp] theorem Try.zero9 : Try.t9.zero = some (.string ⟨#[]⟩) := rfl
attribute [simp] Try.underlying9
@[simp] theorem Try.info10 : Try.prog.info? 10 = some Try.t10 := Try.type10
@[simp] theorem Try.size10 : Try.t10.size = 1 := rfl
@[simp] theorem Try.bytes10 : Try.t10.bytes = 16 := rfl
@[simp] theorem Try.zero10 : Try.t10.zero = some (.string ⟨#[]⟩) := rfl
attribute [simp] Try.underlying10
@[simp] theorem Try.info11 : Try.prog.info? 11 = some Try.t11 := Try.type11
@[simp] theorem Try.size11 : Try.t11.size = 1 := rfl
@[simp] theorem Try.bytes11 : Try.t11.bytes = 16 := rfl
@[simp] theorem Try.zero11 : Try.t11.zero = some (.string ⟨#[]⟩) := rfl
attribute [simp] Try.underlying11
@[simp] theorem Try.info12 : Try.prog.info? 12 = some Try.t12 := Try.type12
@[simp] theorem Try.size12 : Try.t12.size = 1 := rfl
@[simp] theorem Try.bytes12 : Try.t12.bytes = 8 := rfl
@[simp] theorem Try.zero12 : Try.t12.zero = some (.int .u64 0) := rfl
attribute [simp] Try.underlying12
@[simp] theorem Try.info13 : Try.prog.info? 13 = some Try.t13 := Try.type13
@[simp] theorem Try.size13 : Try.t13.size = 2 := rfl
@[simp] theorem Try.bytes13 : Try.t13.bytes = 24 := rfl
@[simp] theorem Try.zero13 : Try.t13.zero = some (.agg #[.string ⟨#[]⟩, .int .u64 0]) := rfl
attribute [simp] Try.underlying13
@[simp] theorem Try.info14 : Try.prog.info? 14 = some Try.t14 := Try.type14
@[simp] theorem Try.size14 : Try.t14.size = 2 := rfl
@[simp] theorem Try.bytes14 : Try.t14.bytes = 24 := rfl
@[simp] theorem Try.zero14 : Try.t14.zero = some (.agg #[.string ⟨#[]⟩, .int .u64 0]) := rfl
attribute [simp] Try.underlying14
@[simp] theorem Try.info15 : Try.prog.info? 15 = some Try.t15 := Try.type15
@[simp] theorem Try.size15 : Try.t15.size = 1 := rfl
@[simp] theorem Try.bytes15 : Try.t15.bytes = 8 := rfl
@[simp] theorem Try.zero15 : Try.t15.zero = some (.pointer none) := rfl
attribute [simp] Try.underlying15
@[simp] theorem Try.info16 : Try.prog.info? 16 = some Try.t16 := Try.type16
@[simp] theorem Try.size16 : Try.t16.size = 1 := rfl
@[simp] theorem Try.bytes16 : Try.t16.bytes = 8 := rfl
@[simp] theorem Try.zero16 : Try.t16.zero = some (.pointer none) := rfl
attribute [simp] Try.underlying16
@[simp] theorem Try.info17 : Try.prog.info? 17 = some Try.t17 := Try.type17
@[simp] theorem Try.size17 : Try.t17.size = 1 := rfl
@[simp] theorem Try.bytes17 : Try.t17.bytes = 8 := rfl
@[simp] theorem Try.zero17 : Try.t17.zero = some (.pointer none) := rfl
attribute [simp] Try.underlying17
@[simp] theorem Try.info18 : Try.prog.info? 18 = some Try.t18 := Try.type18
@[simp] theorem Try.size18 : Try.t18.size = 1 := rfl
@[simp] theorem Try.bytes18 : Try.t18.bytes = 8 := rfl
@[simp] theorem Try.zero18 : Try.t18.zero = some (.agg #[.pointer none]) := rfl
attribute [simp] Try.underlying18
@[simp] theorem Try.info19 : Try.prog.info? 19 = some Try.t19 := Try.type19
@[simp] theorem Try.size19 : Try.t19.size = 1 := rfl
@[simp] theorem Try.bytes19 : Try.t19.bytes = 8 := rfl
@[simp] theorem Try.zero19 : Try.t19.zero = some (.agg #[.pointer none]) := rfl
attribute [simp] Try.underlying19
@[simp] theorem Try.info20 : Try.prog.info? 20 = some Try.t20 := Try.type20
@[simp] theorem Try.size20 : Try.t20.size = 1 := rfl
@[simp] theorem Try.bytes20 : Try.t20.bytes = 16 := rfl
@[simp] theorem Try.zero20 : Try.t20.zero = some (.nilIface) := rfl
attribute [simp] Try.underlying20
@[simp] theorem Try.info21 : Try.prog.info? 21 = some Try.t21 := Try.type21
@[simp] theorem Try.size21 : Try.t21.size = 1 := rfl
@[simp] theorem Try.bytes21 : Try.t21.bytes = 4 := rfl
@[simp] theorem Try.zero21 : Try.t21.zero = some (.int .i32 0) := rfl
attribute [simp] Try.underlying21
@[simp] theorem Try.info22 : Try.prog.info? 22 = some Try.t22 := Try.type22
@[simp] theorem Try.size22 : Try.t22.size = 1 := rfl
@[simp] theorem Try.bytes22 : Try.t22.bytes = 24 := rfl
@[simp] theorem Try.zero22 : Try.t22.zero = some (.slice none 0 0) := rfl
attribute [simp] Try.underlying22
@[simp] theorem Try.info23 : Try.prog.info? 23 = some Try.t23 := Try.type23
@[simp] theorem Try.size23 : Try.t23.size = 1 := rfl
@[simp] theorem Try.bytes23 : Try.t23.bytes = 8 := rfl
@[simp] theorem Try.zero23 : Try.t23.zero = some (.nilFunc) := rfl
attribute [simp] Try.underlying23
@[simp] theorem Try.info24 : Try.prog.info? 24 = some Try.t24 := Try.type24
@[simp] theorem Try.size24 : Try.t24.size = 1 := rfl
@[simp] theorem Try.bytes24 : Try.t24.bytes = 8 := rfl
@[simp] theorem Try.zero24 : Try.t24.zero = some (.nilFunc) := rfl
attribute [simp] Try.underlying24
@[simp] theorem Try.info25 : Try.prog.info? 25 = some Try.t25 := Try.type25
@[simp] theorem Try.size25 : Try.t25.size = 1 := rfl
@[simp] theorem Try.bytes25 : Try.t25.bytes = 8 := rfl
@[simp] theorem Try.zero25 : Try.t25.zero = some (.int .i64 0) := rfl
attribute [simp] Try.underlying25
@[simp] theorem Try.info26 : Try.prog.info? 26 = some Try.t26 := Try.type26
@[simp] theorem Try.size26 : Try.t26.size = 1 := rfl
@[simp] theorem Try.bytes26 : Try.t26.bytes = 0 := rfl
@[simp] theorem Try.zero26 : Try.t26.zero = some (.tuple #[.slice none 0 0, .int .i64 0]) := rfl
attribute [simp] Try.underlying26
@[simp] theorem Try.info27 : Try.prog.info? 27 = some Try.t27 := Try.type27
@[simp] theorem Try.size27 : Try.t27.size = 1 := rfl
@[simp] theorem Try.bytes27 : Try.t27.bytes = 8 := rfl
@[simp] theorem Try.zero27 : Try.t27.zero = some (.nilFunc) := rfl
attribute [simp] Try.underlying27
@[simp] theorem Try.info28 : Try.prog.info? 28 = some Try.t28 := Try.type28
@[simp] theorem Try.size28 : Try.t28.size = 1 := rfl
@[simp] theorem Try.bytes28 : Try.t28.bytes = 8 := rfl
@[simp] theorem Try.zero28 : Try.t28.zero = some (.nilFunc) := rfl
attribute [simp] Try.underlying28
@[simp] theorem Try.info29 : Try.prog.info? 29 = some Try.t29 := Try.type29
@[simp] theorem Try.size29 : Try.t29.size = 1 := rfl
@[simp] theorem Try.bytes29 : Try.t29.bytes = 8 := rfl
@[simp] theorem Try.zero29 : Try.t29.zero = some (.nilFunc) := rfl
attribute [simp] Try.underlying29
@[simp] theorem Try.info30 : Try.prog.info? 30 = some Try.t30 := Try.type30
@[simp] theorem Try.size30 : Try.t30.size = 1 := rfl
@[simp] theorem Try.bytes30 : Try.t30.bytes = 8 := rfl
@[simp] theorem Try.zero30 : Try.t30.zero = some (.nilFunc) := rfl
attribute [simp] Try.underlying30
@[simp] theorem Try.info31 : Try.prog.info? 31 = some Try.t31 := Try.type31
@[simp] theorem Try.size31 : Try.t31.size = 1 := rfl
@[simp] theorem Try.bytes31 : Try.t31.bytes = 8 := rfl
@[simp] theorem Try.zero31 : Try.t31.zero = some (.nilFunc) := rfl
attribute [simp] Try.underlying31
@[simp] theorem Try.info32 : Try.prog.info? 32 = some Try.t32 := Try.type32
@[simp] theorem Try.size32 : Try.t32.size = 1 := rfl
@[simp] theorem Try.bytes32 : Try.t32.bytes = 8 := rfl
@[simp] theorem Try.zero32 : Try.t32.zero = some (.nilFunc) := rfl
attribute [simp] Try.underlying32
@[simp] theorem Try.info33 : Try.prog.info? 33 = some Try.t33 := Try.type33
@[simp] theorem Try.size33 : Try.t33.size = 1 := rfl
@[simp] theorem Try.bytes33 : Try.t33.bytes = 8 := rfl
@[simp] theorem Try.zero33 : Try.t33.zero = some (.int .u64 0) := rfl
attribute [simp] Try.underlying33
@[simp] theorem Try.info34 : Try.prog.info? 34 = some Try.t34 := Try.type34
@[simp] theorem Try.size34 : Try.t34.size = 1 := rfl
@[simp] theorem Try.bytes34 : Try.t34.bytes = 8 := rfl
@[simp] theorem Try.zero34 : Try.t34.zero = some (.nilFunc) := rfl
attribute [simp] Try.underlying34
@[simp] theorem Try.info35 : Try.prog.info? 35 = some Try.t35 := Try.type35
@[simp] theorem Try.size35 : Try.t35.size = 1 := rfl
@[simp] theorem Try.bytes35 : Try.t35.bytes = 8 := rfl
@[simp] theorem Try.zero35 : Try.t35.zero = some (.nilFunc) := rfl
attribute [simp] Try.underlying35
@[simp] theorem Try.info36 : Try.prog.info? 36 = some Try.t36 := Try.type36
@[simp] theorem Try.size36 : Try.t36.size = 1 := rfl
@[simp] theorem Try.bytes36 : Try.t36.bytes = 8 := rfl
@[simp] theorem Try.zero36 : Try.t36.zero = some (.nilFunc) := rfl
attribute [simp] Try.underlying36
@[simp] theorem Try.info37 : Try.prog.info? 37 = some Try.t37 := Try.type37
@[simp] theorem Try.size37 : Try.t37.size = 4 := rfl
@[simp] theorem Try.bytes37 : Try.t37.bytes = 40 := rfl
@[simp] theorem Try.zero37 : Try.t37.zero = some (.agg #[.pointer none, .pointer none, .pointer none, .string ⟨#[]⟩]) := rfl
attribute [simp] Try.underlying37
@[simp] theorem Try.info38 : Try.prog.info? 38 = some Try.t38 := Try.type38
@[simp] theorem Try.size38 : Try.t38.size = 4 := rfl
@[simp] theorem Try.bytes38 : Try.t38.bytes = 40 := rfl
@[simp] theorem Try.zero38 : Try.t38.zero = some (.agg #[.pointer none, .pointer none, .pointer none, .string ⟨#[]⟩]) := rfl
attribute [simp] Try.underlying38
@[simp] theorem Try.info39 : Try.prog.info? 39 = some Try.t39 := Try.type39
@[simp] theorem Try.size39 : Try.t39.size = 0 := rfl
@[simp] theorem Try.bytes39 : Try.t39.bytes = 0 := rfl
@[simp] theorem Try.zero39 : Try.t39.zero = some (.agg #[]) := rfl
attribute [simp] Try.underlying39
@[simp] theorem Try.info40 : Try.prog.info? 40 = some Try.t40 := Try.type40
@[simp] theorem Try.size40 : Try.t40.size = 0 := rfl
@[simp] theorem Try.bytes40 : Try.t40.bytes = 0 := rfl
@[simp] theorem Try.zero40 : Try.t40.zero = some (.agg #[]) := rfl
attribute [simp] Try.underlying40
@[simp] theorem Try.info41 : Try.prog.info? 41 = some Try.t41 := Try.type41
@[simp] theorem Try.size41 : Try.t41.size = 0 := rfl
@[simp] theorem Try.bytes41 : Try.t41.bytes = 0 := rfl
@[simp] theorem Try.zero41 : Try.t41.zero = some (.agg #[]) := rfl
attribute [simp] Try.underlying41
@[simp] theorem Try.info42 : Try.prog.info? 42 = some Try.t42 := Try.type42
@[simp] theorem Try.size42 : Try.t42.size = 1 := rfl
@[simp] theorem Try.bytes42 : Try.t42.bytes = 8 := rfl
@[simp] theorem Try.zero42 : Try.t42.zero = some (.nilFunc) := rfl
attribute [simp] Try.underlying42
@[simp] theorem Try.info43 : Try.prog.info? 43 = some Try.t43 := Try.type43
@[simp] theorem Try.size43 : Try.t43.size = 1 := rfl
@[simp] theorem Try.bytes43 : Try.t43.bytes = 4 := rfl
@[simp] theorem Try.zero43 : Try.t43.zero = some (.int .u32 0) := rfl
attribute [simp] Try.underlying43
@[simp] theorem Try.info44 : Try.prog.info? 44 = some Try.t44 := Try.type44
@[simp] theorem Try.size44 : Try.t44.size = 1 := rfl
@[simp] theorem Try.bytes44 : Try.t44.bytes = 1 := rfl
@[simp] theorem Try.zero44 : Try.t44.zero = some (.int .u8 0) := rfl
attribute [simp] Try.underlying44
@[simp] theorem Try.info45 : Try.prog.info? 45 = some Try.t45 := Try.type45
@[simp] theorem Try.size45 : Try.t45.size = 1 := rfl
@[simp] theorem Try.bytes45 : Try.t45.bytes = 1 := rfl
@[simp] theorem Try.zero45 : Try.t45.zero = some (.int .u8 0) := rfl
attribute [simp] Try.underlying45
@[simp] theorem Try.info46 : Try.prog.info? 46 = some Try.t46 := Try.type46
@[simp] theorem Try.size46 : Try.t46.size = 1 := rfl
@[simp] theorem Try.bytes46 : Try.t46.bytes = 8 := rfl
@[simp] theorem Try.zero46 : Try.t46.zero = some (.nilFunc) := rfl
attribute [simp] Try.underlying46
@[simp] theorem Try.info47 : Try.prog.info? 47 = some Try.t47 := Try.type47
@[simp] theorem Try.size47 : Try.t47.size = 1 := rfl
@[simp] theorem Try.bytes47 : Try.t47.bytes = 8 := rfl
@[simp] theorem Try.zero47 : Try.t47.zero = some (.pointer none) := rfl
attribute [simp] Try.underlying47
@[simp] theorem Try.info48 : Try.prog.info? 48 = some Try.t48 := Try.type48
@[simp] theorem Try.size48 : Try.t48.size = 1 := rfl
@[simp] theorem Try.bytes48 : Try.t48.bytes = 4 := rfl
@[simp] theorem Try.zero48 : Try.t48.zero = some (.int .i32 0) := rfl
attribute [simp] Try.underlying48
@[simp] theorem Try.info49 : Try.prog.info? 49 = some Try.t49 := Try.type49
@[simp] theorem Try.size49 : Try.t49.size = 1 := rfl
@[simp] theorem Try.bytes49 : Try.t49.bytes = 4 := rfl
@[simp] theorem Try.zero49 : Try.t49.zero = some (.int .i32 0) := rfl
attribute [simp] Try.underlying49
@[simp] theorem Try.info50 : Try.prog.info? 50 = some Try.t50 := Try.type50
@[simp] theorem Try.size50 : Try.t50.size = 11 := rfl
@[simp] theorem Try.bytes50 : Try.t50.bytes = 48 := rfl
@[simp] theorem Try.zero50 : Try.t50.zero = some (.agg #[.int .u64 0, .int .u64 0, .int .u32 0, .int .u8 0, .int .u8 0, .int .u8 0, .int .u8 0, .nilFunc, .pointer none, .int .i32 0, .int .i32 0]) := rfl
attribute [simp] Try.underlying50
@[simp] theorem Try.info51 : Try.prog.info? 51 = some Try.t51 := Try.type51
@[simp] theorem Try.size51 : Try.t51.size = 11 := rfl
@[simp] theorem Try.bytes51 : Try.t51.bytes = 48 := rfl
@[simp] theorem Try.zero51 : Try.t51.zero = some (.agg #[.int .u64 0, .int .u64 0, .int .u32 0, .int .u8 0, .int .u8 0, .int .u8 0, .int .u8 0, .nilFunc, .pointer none, .int .i32 0, .int .i32 0]) := rfl
attribute [simp] Try.underlying51
@[simp] theorem Try.info52 : Try.prog.info? 52 = some Try.t52 := Try.type52
@[simp] theorem Try.size52 : Try.t52.size = 1 := rfl
@[simp] theorem Try.bytes52 : Try.t52.bytes = 8 := rfl
@[simp] theorem Try.zero52 : Try.t52.zero = some (.pointer none) := rfl
attribute [simp] Try.underlying52
attribute [simp] Try.results0
attribute [simp] Try.results1
attribute [simp] Try.results2
attribute [simp] Try.results3
attribute [simp] Try.results4
attribute [simp] Try.results5
attribute [simp] Try.results6
attribute [simp] Try.results7
attribute [simp] Try.results8
attribute [simp] Try.results9
attribute [simp] Try.results10
attribute [simp] Try.results11
attribute [simp] Try.results12
attribute [simp] Try.results13
attribute [simp] Try.results14
attribute [simp] Try.results15
attribute [simp] Try.results16
attribute [simp] Try.results17
attribute [simp] Try.results18
attribute [simp] Try.results19
attribute [simp] Try.results20
attribute [simp] Try.results21
attribute [simp] Try.results22
attribute [simp] Try.results23
attribute [simp] Try.results24
attribute [simp] Try.results25
attribute [simp] Try.results26
attribute [simp] Try.results27
attribute [simp] Try.results28
attribute [simp] Try.results29
attribute [simp] Try.results30
end Go.Proofs
