/-
  What simp is to know of the types of this translation: sizes, zero values, underlying types; and of the results of its functions. Written by a program of ours.
-/
import Derived.Test.YtcffnkgjmneaeaaGreatDoorProg
import Derived.KernelRfl
namespace Go.Proofs
open Go
set_option maxRecDepth 100000
@[simp] theorem Tryz.info0 : Tryz.prog.info? 0 = some Tryz.t0 := Tryz.type0
@[simp] theorem Tryz.size0 : Tryz.t0.size = 1 := rfl
@[simp] theorem Tryz.bytes0 : Tryz.t0.bytes = 0 := rfl
@[simp] theorem Tryz.zero0 : Tryz.t0.zero = some (.tuple #[]) := rfl
attribute [simp] Tryz.underlying0
@[simp] theorem Tryz.info1 : Tryz.prog.info? 1 = some Tryz.t1 := Tryz.type1
@[simp] theorem Tryz.size1 : Tryz.t1.size = 1 := rfl
@[simp] theorem Tryz.bytes1 : Tryz.t1.bytes = 8 := rfl
@[simp] theorem Tryz.zero1 : Tryz.t1.zero = some (.nilFunc) := rfl
attribute [simp] Tryz.underlying1
@[simp] theorem Tryz.info2 : Tryz.prog.info? 2 = some Tryz.t2 := Tryz.type2
@[simp] theorem Tryz.size2 : Tryz.t2.size = 1 := rfl
@[simp] theorem Tryz.bytes2 : Tryz.t2.bytes = 8 := rfl
@[simp] theorem Tryz.zero2 : Tryz.t2.zero = some (.int .i64 0) := rfl
attribute [simp] Tryz.underlying2
@[simp] theorem Tryz.info3 : Tryz.prog.info? 3 = some Tryz.t3 := Tryz.type3
@[simp] theorem Tryz.size3 : Tryz.t3.size = 1 := rfl
@[simp] theorem Tryz.bytes3 : Tryz.t3.bytes = 8 := rfl
@[simp] theorem Tryz.zero3 : Tryz.t3.zero = some (.int .i64 0) := rfl
attribute [simp] Tryz.underlying3
@[simp] theorem Tryz.info4 : Tryz.prog.info? 4 = some Tryz.t4 := Tryz.type4
@[simp] theorem Tryz.size4 : Tryz.t4.size = 1 := rfl
@[simp] theorem Tryz.bytes4 : Tryz.t4.bytes = 1 := rfl
@[simp] theorem Tryz.zero4 : Tryz.t4.zero = some (.bool false) := rfl
attribute [simp] Tryz.underlying4
@[simp] theorem Tryz.info5 : Tryz.prog.info? 5 = some Tryz.t5 := Tryz.type5
@[simp] theorem Tryz.size5 : Tryz.t5.size = 1 := rfl
@[simp] theorem Tryz.bytes5 : Tryz.t5.bytes = 1 := rfl
@[simp] theorem Tryz.zero5 : Tryz.t5.zero = some (.int .u8 0) := rfl
attribute [simp] Tryz.underlying5
@[simp] theorem Tryz.info6 : Tryz.prog.info? 6 = some Tryz.t6 := Tryz.type6
@[simp] theorem Tryz.size6 : Tryz.t6.size = 1 := rfl
@[simp] theorem Tryz.bytes6 : Tryz.t6.bytes = 1 := rfl
@[simp] theorem Tryz.zero6 : Tryz.t6.zero = some (.int .u8 0) := rfl
attribute [simp] Tryz.underlying6
@[simp] theorem Tryz.info7 : Tryz.prog.info? 7 = some Tryz.t7 := Tryz.type7
@[simp] theorem Tryz.size7 : Tryz.t7.size = 4 := rfl
@[simp] theorem Tryz.bytes7 : Tryz.t7.bytes = 24 := rfl
@[simp] theorem Tryz.zero7 : Tryz.t7.zero = some (.agg #[.int .i64 0, .int .i64 0, .bool false, .int .u8 0]) := rfl
attribute [simp] Tryz.underlying7
@[simp] theorem Tryz.info8 : Tryz.prog.info? 8 = some Tryz.t8 := Tryz.type8
@[simp] theorem Tryz.size8 : Tryz.t8.size = 4 := rfl
@[simp] theorem Tryz.bytes8 : Tryz.t8.bytes = 24 := rfl
@[simp] theorem Tryz.zero8 : Tryz.t8.zero = some (.agg #[.int .i64 0, .int .i64 0, .bool false, .int .u8 0]) := rfl
attribute [simp] Tryz.underlying8
@[simp] theorem Tryz.info9 : Tryz.prog.info? 9 = some Tryz.t9 := Tryz.type9
@[simp] theorem Tryz.size9 : Tryz.t9.size = 1 := rfl
@[simp] theorem Tryz.bytes9 : Tryz.t9.bytes = 16 := rfl
@[simp] theorem Tryz.zero9 : Tryz.t9.zero = some (.string ⟨#[]⟩) := rfl
attribute [simp] Tryz.underlying9
@[simp] theorem Tryz.info10 : Tryz.prog.info? 10 = some Tryz.t10 := Tryz.type10
@[simp] theorem Tryz.size10 : Tryz.t10.size = 1 := rfl
@[simp] theorem Tryz.bytes10 : Tryz.t10.bytes = 16 := rfl
@[simp] theorem Tryz.zero10 : Tryz.t10.zero = some (.string ⟨#[]⟩) := rfl
attribute [simp] Tryz.underlying10
@[simp] theorem Tryz.info11 : Tryz.prog.info? 11 = some Tryz.t11 := Tryz.type11
@[simp] theorem Tryz.size11 : Tryz.t11.size = 1 := rfl
@[simp] theorem Tryz.bytes11 : Tryz.t11.bytes = 16 := rfl
@[simp] theorem Tryz.zero11 : Tryz.t11.zero = some (.string ⟨#[]⟩) := rfl
attribute [simp] Tryz.underlying11
@[simp] theorem Tryz.info12 : Tryz.prog.info? 12 = some Tryz.t12 := Tryz.type12
@[simp] theorem Tryz.size12 : Tryz.t12.size = 1 := rfl
@[simp] theorem Tryz.bytes12 : Tryz.t12.bytes = 8 := rfl
@[simp] theorem Tryz.zero12 : Tryz.t12.zero = some (.int .u64 0) := rfl
attribute [simp] Tryz.underlying12
@[simp] theorem Tryz.info13 : Tryz.prog.info? 13 = some Tryz.t13 := Tryz.type13
@[simp] theorem Tryz.size13 : Tryz.t13.size = 2 := rfl
@[simp] theorem Tryz.bytes13 : Tryz.t13.bytes = 24 := rfl
@[simp] theorem Tryz.zero13 : Tryz.t13.zero = some (.agg #[.string ⟨#[]⟩, .int .u64 0]) := rfl
attribute [simp] Tryz.underlying13
@[simp] theorem Tryz.info14 : Tryz.prog.info? 14 = some Tryz.t14 := Tryz.type14
@[simp] theorem Tryz.size14 : Tryz.t14.size = 2 := rfl
@[simp] theorem Tryz.bytes14 : Tryz.t14.bytes = 24 := rfl
@[simp] theorem Tryz.zero14 : Tryz.t14.zero = some (.agg #[.string ⟨#[]⟩, .int .u64 0]) := rfl
attribute [simp] Tryz.underlying14
@[simp] theorem Tryz.info15 : Tryz.prog.info? 15 = some Tryz.t15 := Tryz.type15
@[simp] theorem Tryz.size15 : Tryz.t15.size = 1 := rfl
@[simp] theorem Tryz.bytes15 : Tryz.t15.bytes = 8 := rfl
@[simp] theorem Tryz.zero15 : Tryz.t15.zero = some (.pointer none) := rfl
attribute [simp] Tryz.underlying15
@[simp] theorem Tryz.info16 : Tryz.prog.info? 16 = some Tryz.t16 := Tryz.type16
@[simp] theorem Tryz.size16 : Tryz.t16.size = 1 := rfl
@[simp] theorem Tryz.bytes16 : Tryz.t16.bytes = 8 := rfl
@[simp] theorem Tryz.zero16 : Tryz.t16.zero = some (.pointer none) := rfl
attribute [simp] Tryz.underlying16
@[simp] theorem Tryz.info17 : Tryz.prog.info? 17 = some Tryz.t17 := Tryz.type17
@[simp] theorem Tryz.size17 : Tryz.t17.size = 1 := rfl
@[simp] theorem Tryz.bytes17 : Tryz.t17.bytes = 8 := rfl
@[simp] theorem Tryz.zero17 : Tryz.t17.zero = some (.pointer none) := rfl
attribute [simp] Tryz.underlying17
@[simp] theorem Tryz.info18 : Tryz.prog.info? 18 = some Tryz.t18 := Tryz.type18
@[simp] theorem Tryz.size18 : Tryz.t18.size = 1 := rfl
@[simp] theorem Tryz.bytes18 : Tryz.t18.bytes = 8 := rfl
@[simp] theorem Tryz.zero18 : Tryz.t18.zero = some (.agg #[.pointer none]) := rfl
attribute [simp] Tryz.underlying18
@[simp] theorem Tryz.info19 : Tryz.prog.info? 19 = some Tryz.t19 := Tryz.type19
@[simp] theorem Tryz.size19 : Tryz.t19.size = 1 := rfl
@[simp] theorem Tryz.bytes19 : Tryz.t19.bytes = 8 := rfl
@[simp] theorem Tryz.zero19 : Tryz.t19.zero = some (.agg #[.pointer none]) := rfl
attribute [simp] Tryz.underlying19
@[simp] theorem Tryz.info20 : Tryz.prog.info? 20 = some Tryz.t20 := Tryz.type20
@[simp] theorem Tryz.size20 : Tryz.t20.size = 1 := rfl
@[simp] theorem Tryz.bytes20 : Tryz.t20.bytes = 16 := rfl
@[simp] theorem Tryz.zero20 : Tryz.t20.zero = some (.nilIface) := rfl
attribute [simp] Tryz.underlying20
@[simp] theorem Tryz.info21 : Tryz.prog.info? 21 = some Tryz.t21 := Tryz.type21
@[simp] theorem Tryz.size21 : Tryz.t21.size = 1 := rfl
@[simp] theorem Tryz.bytes21 : Tryz.t21.bytes = 4 := rfl
@[simp] theorem Tryz.zero21 : Tryz.t21.zero = some (.int .i32 0) := rfl
attribute [simp] Tryz.underlying21
@[simp] theorem Tryz.info22 : Tryz.prog.info? 22 = some Tryz.t22 := Tryz.type22
@[simp] theorem Tryz.size22 : Tryz.t22.size = 4 := rfl
@[simp] theorem Tryz.bytes22 : Tryz.t22.bytes = 32 := rfl
@[simp] theorem Tryz.zero22 : Tryz.t22.zero = some (.agg #[.int .i64 0, .int .i64 0, .int .i64 0, .int .i64 0]) := rfl
attribute [simp] Tryz.underlying22
@[simp] theorem Tryz.info23 : Tryz.prog.info? 23 = some Tryz.t23 := Tryz.type23
@[simp] theorem Tryz.size23 : Tryz.t23.size = 13 := rfl
@[simp] theorem Tryz.bytes23 : Tryz.t23.bytes = 104 := rfl
@[simp] theorem Tryz.zero23 : Tryz.t23.zero = some (.agg #[.int .i64 0, .int .i64 0, .int .i64 0, .int .i64 0, .int .i64 0, .int .i64 0, .int .i64 0, .int .i64 0, .int .i64 0, .int .i64 0, .int .i64 0, .int .i64 0, .bool false]) := rfl
attribute [simp] Tryz.underlying23
@[simp] theorem Tryz.info24 : Tryz.prog.info? 24 = some Tryz.t24 := Tryz.type24
@[simp] theorem Tryz.size24 : Tryz.t24.size = 13 := rfl
@[simp] theorem Tryz.bytes24 : Tryz.t24.bytes = 104 := rfl
@[simp] theorem Tryz.zero24 : Tryz.t24.zero = some (.agg #[.int .i64 0, .int .i64 0, .int .i64 0, .int .i64 0, .int .i64 0, .int .i64 0, .int .i64 0, .int .i64 0, .int .i64 0, .int .i64 0, .int .i64 0, .int .i64 0, .bool false]) := rfl
attribute [simp] Tryz.underlying24
@[simp] theorem Tryz.info25 : Tryz.prog.info? 25 = some Tryz.t25 := Tryz.type25
@[simp] theorem Tryz.size25 : Tryz.t25.size = 1 := rfl
@[simp] theorem Tryz.bytes25 : Tryz.t25.bytes = 24 := rfl
@[simp] theorem Tryz.zero25 : Tryz.t25.zero = some (.slice none 0 0) := rfl
attribute [simp] Tryz.underlying25
@[simp] theorem Tryz.info26 : Tryz.prog.info? 26 = some Tryz.t26 := Tryz.type26
@[simp] theorem Tryz.size26 : Tryz.t26.size = 5 := rfl
@[simp] theorem Tryz.bytes26 : Tryz.t26.bytes = 40 := rfl
@[simp] theorem Tryz.zero26 : Tryz.t26.zero = some (.agg #[.int .i64 0, .int .i64 0, .int .i64 0, .int .i64 0, .int .i64 0]) := rfl
attribute [simp] Tryz.underlying26
@[simp] theorem Tryz.info27 : Tryz.prog.info? 27 = some Tryz.t27 := Tryz.type27
@[simp] theorem Tryz.size27 : Tryz.t27.size = 1 := rfl
@[simp] theorem Tryz.bytes27 : Tryz.t27.bytes = 8 := rfl
@[simp] theorem Tryz.zero27 : Tryz.t27.zero = some (.nilFunc) := rfl
attribute [simp] Tryz.underlying27
@[simp] theorem Tryz.info28 : Tryz.prog.info? 28 = some Tryz.t28 := Tryz.type28
@[simp] theorem Tryz.size28 : Tryz.t28.size = 1 := rfl
@[simp] theorem Tryz.bytes28 : Tryz.t28.bytes = 8 := rfl
@[simp] theorem Tryz.zero28 : Tryz.t28.zero = some (.pointer none) := rfl
attribute [simp] Tryz.underlying28
@[simp] theorem Tryz.info29 : Tryz.prog.info? 29 = some Tryz.t29 := Tryz.type29
@[simp] theorem Tryz.size29 : Tryz.t29.size = 1 := rfl
@[simp] theorem Tryz.bytes29 : Tryz.t29.bytes = 8 := rfl
@[simp] theorem Tryz.zero29 : Tryz.t29.zero = some (.int .i64 0) := rfl
attribute [simp] Tryz.underlying29
@[simp] theorem Tryz.info30 : Tryz.prog.info? 30 = some Tryz.t30 := Tryz.type30
@[simp] theorem Tryz.size30 : Tryz.t30.size = 1 := rfl
@[simp] theorem Tryz.bytes30 : Tryz.t30.bytes = 0 := rfl
@[simp] theorem Tryz.zero30 : Tryz.t30.zero = some (.tuple #[.pointer none, .int .i64 0]) := rfl
attribute [simp] Tryz.underlying30
@[simp] theorem Tryz.info31 : Tryz.prog.info? 31 = some Tryz.t31 := Tryz.type31
@[simp] theorem Tryz.size31 : Tryz.t31.size = 1 := rfl
@[simp] theorem Tryz.bytes31 : Tryz.t31.bytes = 8 := rfl
@[simp] theorem Tryz.zero31 : Tryz.t31.zero = some (.nilFunc) := rfl
attribute [simp] Tryz.underlying31
@[simp] theorem Tryz.info32 : Tryz.prog.info? 32 = some Tryz.t32 := Tryz.type32
@[simp] theorem Tryz.size32 : Tryz.t32.size = 1 := rfl
@[simp] theorem Tryz.bytes32 : Tryz.t32.bytes = 8 := rfl
@[simp] theorem Tryz.zero32 : Tryz.t32.zero = some (.nilFunc) := rfl
attribute [simp] Tryz.underlying32
@[simp] theorem Tryz.info33 : Tryz.prog.info? 33 = some Tryz.t33 := Tryz.type33
@[simp] theorem Tryz.size33 : Tryz.t33.size = 1 := rfl
@[simp] theorem Tryz.bytes33 : Tryz.t33.bytes = 8 := rfl
@[simp] theorem Tryz.zero33 : Tryz.t33.zero = some (.nilFunc) := rfl
attribute [simp] Tryz.underlying33
@[simp] theorem Tryz.info34 : Tryz.prog.info? 34 = some Tryz.t34 := Tryz.type34
@[simp] theorem Tryz.size34 : Tryz.t34.size = 1 := rfl
@[simp] theorem Tryz.bytes34 : Tryz.t34.bytes = 8 := rfl
@[simp] theorem Tryz.zero34 : Tryz.t34.zero = some (.nilFunc) := rfl
attribute [simp] Tryz.underlying34
@[simp] theorem Tryz.info35 : Tryz.prog.info? 35 = some Tryz.t35 := Tryz.type35
@[simp] theorem Tryz.size35 : Tryz.t35.size = 5 := rfl
@[simp] theorem Tryz.bytes35 : Tryz.t35.bytes = 40 := rfl
@[simp] theorem Tryz.zero35 : Tryz.t35.zero = some (.agg #[.int .i64 0, .int .i64 0, .int .i64 0, .int .i64 0, .int .i64 0]) := rfl
attribute [simp] Tryz.underlying35
@[simp] theorem Tryz.info36 : Tryz.prog.info? 36 = some Tryz.t36 := Tryz.type36
@[simp] theorem Tryz.size36 : Tryz.t36.size = 5 := rfl
@[simp] theorem Tryz.bytes36 : Tryz.t36.bytes = 40 := rfl
@[simp] theorem Tryz.zero36 : Tryz.t36.zero = some (.agg #[.int .i64 0, .int .i64 0, .int .i64 0, .int .i64 0, .int .i64 0]) := rfl
attribute [simp] Tryz.underlying36
@[simp] theorem Tryz.info37 : Tryz.prog.info? 37 = some Tryz.t37 := Tryz.type37
@[simp] theorem Tryz.size37 : Tryz.t37.size = 1 := rfl
@[simp] theorem Tryz.bytes37 : Tryz.t37.bytes = 8 := rfl
@[simp] theorem Tryz.zero37 : Tryz.t37.zero = some (.nilFunc) := rfl
attribute [simp] Tryz.underlying37
@[simp] theorem Tryz.info38 : Tryz.prog.info? 38 = some Tryz.t38 := Tryz.type38
@[simp] theorem Tryz.size38 : Tryz.t38.size = 1 := rfl
@[simp] theorem Tryz.bytes38 : Tryz.t38.bytes = 24 := rfl
@[simp] theorem Tryz.zero38 : Tryz.t38.zero = some (.slice none 0 0) := rfl
attribute [simp] Tryz.underlying38
@[simp] theorem Tryz.info39 : Tryz.prog.info? 39 = some Tryz.t39 := Tryz.type39
@[simp] theorem Tryz.size39 : Tryz.t39.size = 1 := rfl
@[simp] theorem Tryz.bytes39 : Tryz.t39.bytes = 24 := rfl
@[simp] theorem Tryz.zero39 : Tryz.t39.zero = some (.slice none 0 0) := rfl
attribute [simp] Tryz.underlying39
@[simp] theorem Tryz.info40 : Tryz.prog.info? 40 = some Tryz.t40 := Tryz.type40
@[simp] theorem Tryz.size40 : Tryz.t40.size = 1 := rfl
@[simp] theorem Tryz.bytes40 : Tryz.t40.bytes = 24 := rfl
@[simp] theorem Tryz.zero40 : Tryz.t40.zero = some (.slice none 0 0) := rfl
attribute [simp] Tryz.underlying40
@[simp] theorem Tryz.info41 : Tryz.prog.info? 41 = some Tryz.t41 := Tryz.type41
@[simp] theorem Tryz.size41 : Tryz.t41.size = 16 := rfl
@[simp] theorem Tryz.bytes41 : Tryz.t41.bytes = 176 := rfl
@[simp] theorem Tryz.zero41 : Tryz.t41.zero = some (.agg #[.int .i64 0, .int .i64 0, .int .i64 0, .int .i64 0, .int .i64 0, .int .i64 0, .int .i64 0, .int .i64 0, .int .i64 0, .int .i64 0, .int .i64 0, .int .i64 0, .bool false, .slice none 0 0, .slice none 0 0, .slice none 0 0]) := rfl
attribute [simp] Tryz.underlying41
@[simp] theorem Tryz.info42 : Tryz.prog.info? 42 = some Tryz.t42 := Tryz.type42
@[simp] theorem Tryz.size42 : Tryz.t42.size = 16 := rfl
@[simp] theorem Tryz.bytes42 : Tryz.t42.bytes = 176 := rfl
@[simp] theorem Tryz.zero42 : Tryz.t42.zero = some (.agg #[.int .i64 0, .int .i64 0, .int .i64 0, .int .i64 0, .int .i64 0, .int .i64 0, .int .i64 0, .int .i64 0, .int .i64 0, .int .i64 0, .int .i64 0, .int .i64 0, .bool false, .slice none 0 0, .slice none 0 0, .slice none 0 0]) := rfl
attribute [simp] Tryz.underlying42
@[simp] theorem Tryz.info43 : Tryz.prog.info? 43 = some Tryz.t43 := Tryz.type43
@[simp] theorem Tryz.size43 : Tryz.t43.size = 1 := rfl
@[simp] theorem Tryz.bytes43 : Tryz.t43.bytes = 0 := rfl
@[simp] theorem Tryz.zero43 : Tryz.t43.zero = some (.tuple #[.int .i64 0, .int .i64 0, .int .i64 0]) := rfl
attribute [simp] Tryz.underlying43
@[simp] theorem Tryz.info44 : Tryz.prog.info? 44 = some Tryz.t44 := Tryz.type44
@[simp] theorem Tryz.size44 : Tryz.t44.size = 1 := rfl
@[simp] theorem Tryz.bytes44 : Tryz.t44.bytes = 8 := rfl
@[simp] theorem Tryz.zero44 : Tryz.t44.zero = some (.nilFunc) := rfl
attribute [simp] Tryz.underlying44
@[simp] theorem Tryz.info45 : Tryz.prog.info? 45 = some Tryz.t45 := Tryz.type45
@[simp] theorem Tryz.size45 : Tryz.t45.size = 1 := rfl
@[simp] theorem Tryz.bytes45 : Tryz.t45.bytes = 8 := rfl
@[simp] theorem Tryz.zero45 : Tryz.t45.zero = some (.nilFunc) := rfl
attribute [simp] Tryz.underlying45
@[simp] theorem Tryz.info46 : Tryz.prog.info? 46 = some Tryz.t46 := Tryz.type46
@[simp] theorem Tryz.size46 : Tryz.t46.size = 1 := rfl
@[simp] theorem Tryz.bytes46 : Tryz.t46.bytes = 0 := rfl
@[simp] theorem Tryz.zero46 : Tryz.t46.zero = some (.tuple #[.slice none 0 0, .int .i64 0, .int .i64 0]) := rfl
attribute [simp] Tryz.underlying46
@[simp] theorem Tryz.info47 : Tryz.prog.info? 47 = some Tryz.t47 := Tryz.type47
@[simp] theorem Tryz.size47 : Tryz.t47.size = 1 := rfl
@[simp] theorem Tryz.bytes47 : Tryz.t47.bytes = 8 := rfl
@[simp] theorem Tryz.zero47 : Tryz.t47.zero = some (.nilFunc) := rfl
attribute [simp] Tryz.underlying47
@[simp] theorem Tryz.info48 : Tryz.prog.info? 48 = some Tryz.t48 := Tryz.type48
@[simp] theorem Tryz.size48 : Tryz.t48.size = 1 := rfl
@[simp] theorem Tryz.bytes48 : Tryz.t48.bytes = 8 := rfl
@[simp] theorem Tryz.zero48 : Tryz.t48.zero = some (.nilFunc) := rfl
attribute [simp] Tryz.underlying48
@[simp] theorem Tryz.info49 : Tryz.prog.info? 49 = some Tryz.t49 := Tryz.type49
@[simp] theorem Tryz.size49 : Tryz.t49.size = 1 := rfl
@[simp] theorem Tryz.bytes49 : Tryz.t49.bytes = 24 := rfl
@[simp] theorem Tryz.zero49 : Tryz.t49.zero = some (.slice none 0 0) := rfl
attribute [simp] Tryz.underlying49
@[simp] theorem Tryz.info50 : Tryz.prog.info? 50 = some Tryz.t50 := Tryz.type50
@[simp] theorem Tryz.size50 : Tryz.t50.size = 1 := rfl
@[simp] theorem Tryz.bytes50 : Tryz.t50.bytes = 0 := rfl
@[simp] theorem Tryz.zero50 : Tryz.t50.zero = some (.tuple #[.agg #[.int .i64 0, .int .i64 0, .int .i64 0, .int .i64 0, .int .i64 0, .int .i64 0, .int .i64 0, .int .i64 0, .int .i64 0, .int .i64 0, .int .i64 0, .int .i64 0, .bool false, .slice none 0 0, .slice none 0 0, .slice none 0 0], .bool false]) := rfl
attribute [simp] Tryz.underlying50
@[simp] theorem Tryz.info51 : Tryz.prog.info? 51 = some Tryz.t51 := Tryz.type51
@[simp] theorem Tryz.size51 : Tryz.t51.size = 1 := rfl
@[simp] theorem Tryz.bytes51 : Tryz.t51.bytes = 8 := rfl
@[simp] theorem Tryz.zero51 : Tryz.t51.zero = some (.nilFunc) := rfl
attribute [simp] Tryz.underlying51
@[simp] theorem Tryz.info52 : Tryz.prog.info? 52 = some Tryz.t52 := Tryz.type52
@[simp] theorem Tryz.size52 : Tryz.t52.size = 1 := rfl
@[simp] theorem Tryz.bytes52 : Tryz.t52.bytes = 8 := rfl
@[simp] theorem Tryz.zero52 : Tryz.t52.zero = some (.nilFunc) := rfl
attribute [simp] Tryz.underlying52
@[simp] theorem Tryz.info53 : Tryz.prog.info? 53 = some Tryz.t53 := Tryz.type53
@[simp] theorem Tryz.size53 : Tryz.t53.size = 1 := rfl
@[simp] theorem Tryz.bytes53 : Tryz.t53.bytes = 8 := rfl
@[simp] theorem Tryz.zero53 : Tryz.t53.zero = some (.pointer none) := rfl
attribute [simp] Tryz.underlying53
@[simp] theorem Tryz.info54 : Tryz.prog.info? 54 = some Tryz.t54 := Tryz.type54
@[simp] theorem Tryz.size54 : Tryz.t54.size = 1 := rfl
@[simp] theorem Tryz.bytes54 : Tryz.t54.bytes = 8 := rfl
@[simp] theorem Tryz.zero54 : Tryz.t54.zero = some (.pointer none) := rfl
attribute [simp] Tryz.underlying54
@[simp] theorem Tryz.info55 : Tryz.prog.info? 55 = some Tryz.t55 := Tryz.type55
@[simp] theorem Tryz.size55 : Tryz.t55.size = 2 := rfl
@[simp] theorem Tryz.bytes55 : Tryz.t55.bytes = 16 := rfl
@[simp] theorem Tryz.zero55 : Tryz.t55.zero = some (.agg #[.pointer none, .pointer none]) := rfl
attribute [simp] Tryz.underlying55
@[simp] theorem Tryz.info56 : Tryz.prog.info? 56 = some Tryz.t56 := Tryz.type56
@[simp] theorem Tryz.size56 : Tryz.t56.size = 2 := rfl
@[simp] theorem Tryz.bytes56 : Tryz.t56.bytes = 16 := rfl
@[simp] theorem Tryz.zero56 : Tryz.t56.zero = some (.agg #[.pointer none, .pointer none]) := rfl
attribute [simp] Tryz.underlying56
@[simp] theorem Tryz.info57 : Tryz.prog.info? 57 = some Tryz.t57 := Tryz.type57
@[simp] theorem Tryz.size57 : Tryz.t57.size = 1 := rfl
@[simp] theorem Tryz.bytes57 : Tryz.t57.bytes = 0 := rfl
@[simp] theorem Tryz.zero57 : Tryz.t57.zero = some (.tuple #[.agg #[.pointer none, .pointer none], .bool false]) := rfl
attribute [simp] Tryz.underlying57
@[simp] theorem Tryz.info58 : Tryz.prog.info? 58 = some Tryz.t58 := Tryz.type58
@[simp] theorem Tryz.size58 : Tryz.t58.size = 1 := rfl
@[simp] theorem Tryz.bytes58 : Tryz.t58.bytes = 8 := rfl
@[simp] theorem Tryz.zero58 : Tryz.t58.zero = some (.nilFunc) := rfl
attribute [simp] Tryz.underlying58
@[simp] theorem Tryz.info59 : Tryz.prog.info? 59 = some Tryz.t59 := Tryz.type59
@[simp] theorem Tryz.size59 : Tryz.t59.size = 1 := rfl
@[simp] theorem Tryz.bytes59 : Tryz.t59.bytes = 8 := rfl
@[simp] theorem Tryz.zero59 : Tryz.t59.zero = some (.int .u64 0) := rfl
attribute [simp] Tryz.underlying59
@[simp] theorem Tryz.info60 : Tryz.prog.info? 60 = some Tryz.t60 := Tryz.type60
@[simp] theorem Tryz.size60 : Tryz.t60.size = 6 := rfl
@[simp] theorem Tryz.bytes60 : Tryz.t60.bytes = 48 := rfl
@[simp] theorem Tryz.zero60 : Tryz.t60.zero = some (.agg #[.int .i64 0, .int .i64 0, .int .i64 0, .int .u64 0, .int .u64 0, .bool false]) := rfl
attribute [simp] Tryz.underlying60
@[simp] theorem Tryz.info61 : Tryz.prog.info? 61 = some Tryz.t61 := Tryz.type61
@[simp] theorem Tryz.size61 : Tryz.t61.size = 6 := rfl
@[simp] theorem Tryz.bytes61 : Tryz.t61.bytes = 48 := rfl
@[simp] theorem Tryz.zero61 : Tryz.t61.zero = some (.agg #[.int .i64 0, .int .i64 0, .int .i64 0, .int .u64 0, .int .u64 0, .bool false]) := rfl
attribute [simp] Tryz.underlying61
@[simp] theorem Tryz.info62 : Tryz.prog.info? 62 = some Tryz.t62 := Tryz.type62
@[simp] theorem Tryz.size62 : Tryz.t62.size = 9 := rfl
@[simp] theorem Tryz.bytes62 : Tryz.t62.bytes = 72 := rfl
@[simp] theorem Tryz.zero62 : Tryz.t62.zero = some (.agg #[.int .i64 0, .int .i64 0, .int .i64 0, .int .i64 0, .int .i64 0, .int .i64 0, .int .u64 0, .int .u64 0, .bool false]) := rfl
attribute [simp] Tryz.underlying62
@[simp] theorem Tryz.info63 : Tryz.prog.info? 63 = some Tryz.t63 := Tryz.type63
@[simp] theorem Tryz.size63 : Tryz.t63.size = 9 := rfl
@[simp] theorem Tryz.bytes63 : Tryz.t63.bytes = 72 := rfl
@[simp] theorem Tryz.zero63 : Tryz.t63.zero = some (.agg #[.int .i64 0, .int .i64 0, .int .i64 0, .int .i64 0, .int .i64 0, .int .i64 0, .int .u64 0, .int .u64 0, .bool false]) := rfl
attribute [simp] Tryz.underlying63
@[simp] theorem Tryz.info64 : Tryz.prog.info? 64 = some Tryz.t64 := Tryz.type64
@[simp] theorem Tryz.size64 : Tryz.t64.size = 1 := rfl
@[simp] theorem Tryz.bytes64 : Tryz.t64.bytes = 24 := rfl
@[simp] theorem Tryz.zero64 : Tryz.t64.zero = some (.slice none 0 0) := rfl
attribute [simp] Tryz.underlying64
@[simp] theorem Tryz.info65 : Tryz.prog.info? 65 = some Tryz.t65 := Tryz.type65
@[simp] theorem Tryz.size65 : Tryz.t65.size = 1 := rfl
@[simp] theorem Tryz.bytes65 : Tryz.t65.bytes = 0 := rfl
@[simp] theorem Tryz.zero65 : Tryz.t65.zero = some (.tuple #[.agg #[.int .i64 0, .int .i64 0, .int .i64 0, .int .i64 0, .int .i64 0, .int .i64 0, .int .u64 0, .int .u64 0, .bool false], .slice none 0 0, .bool false]) := rfl
attribute [simp] Tryz.underlying65
@[simp] theorem Tryz.info66 : Tryz.prog.info? 66 = some Tryz.t66 := Tryz.type66
@[simp] theorem Tryz.size66 : Tryz.t66.size = 1 := rfl
@[simp] theorem Tryz.bytes66 : Tryz.t66.bytes = 8 := rfl
@[simp] theorem Tryz.zero66 : Tryz.t66.zero = some (.nilFunc) := rfl
attribute [simp] Tryz.underlying66
@[simp] theorem Tryz.info67 : Tryz.prog.info? 67 = some Tryz.t67 := Tryz.type67
@[simp] theorem Tryz.size67 : Tryz.t67.size = 8 := rfl
@[simp] theorem Tryz.bytes67 : Tryz.t67.bytes = 64 := rfl
@[simp] theorem Tryz.zero67 : Tryz.t67.zero = some (.agg #[.int .u64 0, .int .u64 0, .int .u64 0, .int .u64 0, .int .u64 0, .int .u64 0, .int .u64 0, .int .u64 0]) := rfl
attribute [simp] Tryz.underlying67
@[simp] theorem Tryz.info68 : Tryz.prog.info? 68 = some Tryz.t68 := Tryz.type68
@[simp] theorem Tryz.size68 : Tryz.t68.size = 11 := rfl
@[simp] theorem Tryz.bytes68 : Tryz.t68.bytes = 88 := rfl
@[simp] theorem Tryz.zero68 : Tryz.t68.zero = some (.agg #[.int .i64 0, .int .u64 0, .int .u64 0, .int .u64 0, .int .u64 0, .int .u64 0, .int .u64 0, .int .u64 0, .int .u64 0, .int .i64 0, .bool false]) := rfl
attribute [simp] Tryz.underlying68
@[simp] theorem Tryz.info69 : Tryz.prog.info? 69 = some Tryz.t69 := Tryz.type69
@[simp] theorem Tryz.size69 : Tryz.t69.size = 11 := rfl
@[simp] theorem Tryz.bytes69 : Tryz.t69.bytes = 88 := rfl
@[simp] theorem Tryz.zero69 : Tryz.t69.zero = some (.agg #[.int .i64 0, .int .u64 0, .int .u64 0, .int .u64 0, .int .u64 0, .int .u64 0, .int .u64 0, .int .u64 0, .int .u64 0, .int .i64 0, .bool false]) := rfl
attribute [simp] Tryz.underlying69
@[simp] theorem Tryz.info70 : Tryz.prog.info? 70 = some Tryz.t70 := Tryz.type70
@[simp] theorem Tryz.size70 : Tryz.t70.size = 1 := rfl
@[simp] theorem Tryz.bytes70 : Tryz.t70.bytes = 8 := rfl
@[simp] theorem Tryz.zero70 : Tryz.t70.zero = some (.nilFunc) := rfl
attribute [simp] Tryz.underlying70
@[simp] theorem Tryz.info71 : Tryz.prog.info? 71 = some Tryz.t71 := Tryz.type71
@[simp] theorem Tryz.size71 : Tryz.t71.size = 1 := rfl
@[simp] theorem Tryz.bytes71 : Tryz.t71.bytes = 8 := rfl
@[simp] theorem Tryz.zero71 : Tryz.t71.zero = some (.nilFunc) := rfl
attribute [simp] Tryz.underlying71
@[simp] theorem Tryz.info72 : Tryz.prog.info? 72 = some Tryz.t72 := Tryz.type72
@[simp] theorem Tryz.size72 : Tryz.t72.size = 1 := rfl
@[simp] theorem Tryz.bytes72 : Tryz.t72.bytes = 24 := rfl
@[simp] theorem Tryz.zero72 : Tryz.t72.zero = some (.slice none 0 0) := rfl
attribute [simp] Tryz.underlying72
@[simp] theorem Tryz.info73 : Tryz.prog.info? 73 = some Tryz.t73 := Tryz.type73
@[simp] theorem Tryz.size73 : Tryz.t73.size = 1 := rfl
@[simp] theorem Tryz.bytes73 : Tryz.t73.bytes = 8 := rfl
@[simp] theorem Tryz.zero73 : Tryz.t73.zero = some (.nilFunc) := rfl
attribute [simp] Tryz.underlying73
@[simp] theorem Tryz.info74 : Tryz.prog.info? 74 = some Tryz.t74 := Tryz.type74
@[simp] theorem Tryz.size74 : Tryz.t74.size = 3 := rfl
@[simp] theorem Tryz.bytes74 : Tryz.t74.bytes = 24 := rfl
@[simp] theorem Tryz.zero74 : Tryz.t74.zero = some (.agg #[.int .i64 0, .int .i64 0, .int .u64 0]) := rfl
attribute [simp] Tryz.underlying74
@[simp] theorem Tryz.info75 : Tryz.prog.info? 75 = some Tryz.t75 := Tryz.type75
@[simp] theorem Tryz.size75 : Tryz.t75.size = 3 := rfl
@[simp] theorem Tryz.bytes75 : Tryz.t75.bytes = 24 := rfl
@[simp] theorem Tryz.zero75 : Tryz.t75.zero = some (.agg #[.int .i64 0, .int .i64 0, .int .u64 0]) := rfl
attribute [simp] Tryz.underlying75
@[simp] theorem Tryz.info76 : Tryz.prog.info? 76 = some Tryz.t76 := Tryz.type76
@[simp] theorem Tryz.size76 : Tryz.t76.size = 1 := rfl
@[simp] theorem Tryz.bytes76 : Tryz.t76.bytes = 8 := rfl
@[simp] theorem Tryz.zero76 : Tryz.t76.zero = some (.nilFunc) := rfl
attribute [simp] Tryz.underlying76
@[simp] theorem Tryz.info77 : Tryz.prog.info? 77 = some Tryz.t77 := Tryz.type77
@[simp] theorem Tryz.size77 : Tryz.t77.size = 1 := rfl
@[simp] theorem Tryz.bytes77 : Tryz.t77.bytes = 0 := rfl
@[simp] theorem Tryz.zero77 : Tryz.t77.zero = some (.tuple #[.int .i64 0, .int .i64 0]) := rfl
attribute [simp] Tryz.underlying77
@[simp] theorem Tryz.info78 : Tryz.prog.info? 78 = some Tryz.t78 := Tryz.type78
@[simp] theorem Tryz.size78 : Tryz.t78.size = 1 := rfl
@[simp] theorem Tryz.bytes78 : Tryz.t78.bytes = 8 := rfl
@[simp] theorem Tryz.zero78 : Tryz.t78.zero = some (.nilFunc) := rfl
attribute [simp] Tryz.underlying78
@[simp] theorem Tryz.info79 : Tryz.prog.info? 79 = some Tryz.t79 := Tryz.type79
@[simp] theorem Tryz.size79 : Tryz.t79.size = 1 := rfl
@[simp] theorem Tryz.bytes79 : Tryz.t79.bytes = 8 := rfl
@[simp] theorem Tryz.zero79 : Tryz.t79.zero = some (.nilFunc) := rfl
attribute [simp] Tryz.underlying79
@[simp] theorem Tryz.info80 : Tryz.prog.info? 80 = some Tryz.t80 := Tryz.type80
@[simp] theorem Tryz.size80 : Tryz.t80.size = 1 := rfl
@[simp] theorem Tryz.bytes80 : Tryz.t80.bytes = 8 := rfl
@[simp] theorem Tryz.zero80 : Tryz.t80.zero = some (.pointer none) := rfl
attribute [simp] Tryz.underlying80
@[simp] theorem Tryz.info81 : Tryz.prog.info? 81 = some Tryz.t81 := Tryz.type81
@[simp] theorem Tryz.size81 : Tryz.t81.size = 1 := rfl
@[simp] theorem Tryz.bytes81 : Tryz.t81.bytes = 8 := rfl
@[simp] theorem Tryz.zero81 : Tryz.t81.zero = some (.nilFunc) := rfl
attribute [simp] Tryz.underlying81
@[simp] theorem Tryz.info82 : Tryz.prog.info? 82 = some Tryz.t82 := Tryz.type82
@[simp] theorem Tryz.size82 : Tryz.t82.size = 1 := rfl
@[simp] theorem Tryz.bytes82 : Tryz.t82.bytes = 8 := rfl
@[simp] theorem Tryz.zero82 : Tryz.t82.zero = some (.pointer none) := rfl
attribute [simp] Tryz.underlying82
@[simp] theorem Tryz.info83 : Tryz.prog.info? 83 = some Tryz.t83 := Tryz.type83
@[simp] theorem Tryz.size83 : Tryz.t83.size = 14 := rfl
@[simp] theorem Tryz.bytes83 : Tryz.t83.bytes = 128 := rfl
@[simp] theorem Tryz.zero83 : Tryz.t83.zero = some (.agg #[.pointer none, .int .i64 0, .int .u64 0, .int .u64 0, .int .u64 0, .int .u64 0, .int .u64 0, .int .u64 0, .int .u64 0, .int .u64 0, .int .i64 0, .slice none 0 0, .bool false, .int .i64 0]) := rfl
attribute [simp] Tryz.underlying83
@[simp] theorem Tryz.info84 : Tryz.prog.info? 84 = some Tryz.t84 := Tryz.type84
@[simp] theorem Tryz.size84 : Tryz.t84.size = 14 := rfl
@[simp] theorem Tryz.bytes84 : Tryz.t84.bytes = 128 := rfl
@[simp] theorem Tryz.zero84 : Tryz.t84.zero = some (.agg #[.pointer none, .int .i64 0, .int .u64 0, .int .u64 0, .int .u64 0, .int .u64 0, .int .u64 0, .int .u64 0, .int .u64 0, .int .u64 0, .int .i64 0, .slice none 0 0, .bool false, .int .i64 0]) := rfl
attribute [simp] Tryz.underlying84
@[simp] theorem Tryz.info85 : Tryz.prog.info? 85 = some Tryz.t85 := Tryz.type85
@[simp] theorem Tryz.size85 : Tryz.t85.size = 1 := rfl
@[simp] theorem Tryz.bytes85 : Tryz.t85.bytes = 8 := rfl
@[simp] theorem Tryz.zero85 : Tryz.t85.zero = some (.pointer none) := rfl
attribute [simp] Tryz.underlying85
@[simp] theorem Tryz.info86 : Tryz.prog.info? 86 = some Tryz.t86 := Tryz.type86
@[simp] theorem Tryz.size86 : Tryz.t86.size = 1 := rfl
@[simp] theorem Tryz.bytes86 : Tryz.t86.bytes = 8 := rfl
@[simp] theorem Tryz.zero86 : Tryz.t86.zero = some (.pointer none) := rfl
attribute [simp] Tryz.underlying86
@[simp] theorem Tryz.info87 : Tryz.prog.info? 87 = some Tryz.t87 := Tryz.type87
@[simp] theorem Tryz.size87 : Tryz.t87.size = 2 := rfl
@[simp] theorem Tryz.bytes87 : Tryz.t87.bytes = 16 := rfl
@[simp] theorem Tryz.zero87 : Tryz.t87.zero = some (.agg #[.pointer none, .pointer none]) := rfl
attribute [simp] Tryz.underlying87
@[simp] theorem Tryz.info88 : Tryz.prog.info? 88 = some Tryz.t88 := Tryz.type88
@[simp] theorem Tryz.size88 : Tryz.t88.size = 2 := rfl
@[simp] theorem Tryz.bytes88 : Tryz.t88.bytes = 16 := rfl
@[simp] theorem Tryz.zero88 : Tryz.t88.zero = some (.agg #[.pointer none, .pointer none]) := rfl
attribute [simp] Tryz.underlying88
@[simp] theorem Tryz.info89 : Tryz.prog.info? 89 = some Tryz.t89 := Tryz.type89
@[simp] theorem Tryz.size89 : Tryz.t89.size = 46 := rfl
@[simp] theorem Tryz.bytes89 : Tryz.t89.bytes = 416 := rfl
@[simp] theorem Tryz.zero89 : Tryz.t89.zero = some (.agg #[.pointer none, .int .i64 0, .int .u64 0, .int .u64 0, .int .u64 0, .int .u64 0, .int .u64 0, .int .u64 0, .int .u64 0, .int .u64 0, .int .i64 0, .slice none 0 0, .bool false, .int .i64 0, .pointer none, .pointer none, .int .i64 0, .int .i64 0, .int .i64 0, .int .i64 0, .int .i64 0, .int .i64 0, .int .i64 0, .int .i64 0, .int .i64 0, .int .i64 0, .int .i64 0, .int .i64 0, .bool false, .int .i64 0, .int .i64 0, .slice none 0 0, .int .i64 0, .int .u64 0, .int .u64 0, .int .u64 0, .int .u64 0, .int .u64 0, .int .u64 0, .int .u64 0, .int .u64 0, .int .i64 0, .bool false, .pointer none, .slice none 0 0, .int .i64 0]) := rfl
attribute [simp] Tryz.underlying89
@[simp] theorem Tryz.info90 : Tryz.prog.info? 90 = some Tryz.t90 := Tryz.type90
@[simp] theorem Tryz.size90 : Tryz.t90.size = 46 := rfl
@[simp] theorem Tryz.bytes90 : Tryz.t90.bytes = 416 := rfl
@[simp] theorem Tryz.zero90 : Tryz.t90.zero = some (.agg #[.pointer none, .int .i64 0, .int .u64 0, .int .u64 0, .int .u64 0, .int .u64 0, .int .u64 0, .int .u64 0, .int .u64 0, .int .u64 0, .int .i64 0, .slice none 0 0, .bool false, .int .i64 0, .pointer none, .pointer none, .int .i64 0, .int .i64 0, .int .i64 0, .int .i64 0, .int .i64 0, .int .i64 0, .int .i64 0, .int .i64 0, .int .i64 0, .int .i64 0, .int .i64 0, .int .i64 0, .bool false, .int .i64 0, .int .i64 0, .slice none 0 0, .int .i64 0, .int .u64 0, .int .u64 0, .int .u64 0, .int .u64 0, .int .u64 0, .int .u64 0, .int .u64 0, .int .u64 0, .int .i64 0, .bool false, .pointer none, .slice none 0 0, .int .i64 0]) := rfl
attribute [simp] Tryz.underlying90
@[simp] theorem Tryz.info91 : Tryz.prog.info? 91 = some Tryz.t91 := Tryz.type91
@[simp] theorem Tryz.size91 : Tryz.t91.size = 1 := rfl
@[simp] theorem Tryz.bytes91 : Tryz.t91.bytes = 8 := rfl
@[simp] theorem Tryz.zero91 : Tryz.t91.zero = some (.nilFunc) := rfl
attribute [simp] Tryz.underlying91
@[simp] theorem Tryz.info92 : Tryz.prog.info? 92 = some Tryz.t92 := Tryz.type92
@[simp] theorem Tryz.size92 : Tryz.t92.size = 1 := rfl
@[simp] theorem Tryz.bytes92 : Tryz.t92.bytes = 8 := rfl
@[simp] theorem Tryz.zero92 : Tryz.t92.zero = some (.nilFunc) := rfl
attribute [simp] Tryz.underlying92
@[simp] theorem Tryz.info93 : Tryz.prog.info? 93 = some Tryz.t93 := Tryz.type93
@[simp] theorem Tryz.size93 : Tryz.t93.size = 1 := rfl
@[simp] theorem Tryz.bytes93 : Tryz.t93.bytes = 8 := rfl
@[simp] theorem Tryz.zero93 : Tryz.t93.zero = some (.int .u64 0) := rfl
attribute [simp] Tryz.underlying93
@[simp] theorem Tryz.info94 : Tryz.prog.info? 94 = some Tryz.t94 := Tryz.type94
@[simp] theorem Tryz.size94 : Tryz.t94.size = 3 := rfl
@[simp] theorem Tryz.bytes94 : Tryz.t94.bytes = 40 := rfl
@[simp] theorem Tryz.zero94 : Tryz.t94.zero = some (.agg #[.int .i64 0, .int .i64 0, .slice none 0 0]) := rfl
attribute [simp] Tryz.underlying94
@[simp] theorem Tryz.info95 : Tryz.prog.info? 95 = some Tryz.t95 := Tryz.type95
@[simp] theorem Tryz.size95 : Tryz.t95.size = 3 := rfl
@[simp] theorem Tryz.bytes95 : Tryz.t95.bytes = 40 := rfl
@[simp] theorem Tryz.zero95 : Tryz.t95.zero = some (.agg #[.int .i64 0, .int .i64 0, .slice none 0 0]) := rfl
attribute [simp] Tryz.underlying95
@[simp] theorem Tryz.info96 : Tryz.prog.info? 96 = some Tryz.t96 := Tryz.type96
@[simp] theorem Tryz.size96 : Tryz.t96.size = 1 := rfl
@[simp] theorem Tryz.bytes96 : Tryz.t96.bytes = 24 := rfl
@[simp] theorem Tryz.zero96 : Tryz.t96.zero = some (.slice none 0 0) := rfl
attribute [simp] Tryz.underlying96
@[simp] theorem Tryz.info97 : Tryz.prog.info? 97 = some Tryz.t97 := Tryz.type97
@[simp] theorem Tryz.size97 : Tryz.t97.size = 1 := rfl
@[simp] theorem Tryz.bytes97 : Tryz.t97.bytes = 8 := rfl
@[simp] theorem Tryz.zero97 : Tryz.t97.zero = some (.nilFunc) := rfl
attribute [simp] Tryz.underlying97
@[simp] theorem Tryz.info98 : Tryz.prog.info? 98 = some Tryz.t98 := Tryz.type98
@[simp] theorem Tryz.size98 : Tryz.t98.size = 1 := rfl
@[simp] theorem Tryz.bytes98 : Tryz.t98.bytes = 8 := rfl
@[simp] theorem Tryz.zero98 : Tryz.t98.zero = some (.pointer none) := rfl
attribute [simp] Tryz.underlying98
@[simp] theorem Tryz.info99 : Tryz.prog.info? 99 = some Tryz.t99 := Tryz.type99
@[simp] theorem Tryz.size99 : Tryz.t99.size = 1 := rfl
@[simp] theorem Tryz.bytes99 : Tryz.t99.bytes = 0 := rfl
@[simp] theorem Tryz.zero99 : Tryz.t99.zero = some (.tuple #[.pointer none, .int .i64 0, .int .i64 0, .int .i64 0]) := rfl
attribute [simp] Tryz.underlying99
@[simp] theorem Tryz.info100 : Tryz.prog.info? 100 = some Tryz.t100 := Tryz.type100
@[simp] theorem Tryz.size100 : Tryz.t100.size = 1 := rfl
@[simp] theorem Tryz.bytes100 : Tryz.t100.bytes = 8 := rfl
@[simp] theorem Tryz.zero100 : Tryz.t100.zero = some (.nilFunc) := rfl
attribute [simp] Tryz.underlying100
@[simp] theorem Tryz.info101 : Tryz.prog.info? 101 = some Tryz.t101 := Tryz.type101
@[simp] theorem Tryz.size101 : Tryz.t101.size = 1 := rfl
@[simp] theorem Tryz.bytes101 : Tryz.t101.bytes = 8 := rfl
@[simp] theorem Tryz.zero101 : Tryz.t101.zero = some (.nilFunc) := rfl
attribute [simp] Tryz.underlying101
@[simp] theorem Tryz.info102 : Tryz.prog.info? 102 = some Tryz.t102 := Tryz.type102
@[simp] theorem Tryz.size102 : Tryz.t102.size = 1 := rfl
@[simp] theorem Tryz.bytes102 : Tryz.t102.bytes = 8 := rfl
@[simp] theorem Tryz.zero102 : Tryz.t102.zero = some (.nilFunc) := rfl
attribute [simp] Tryz.underlying102
@[simp] theorem Tryz.info103 : Tryz.prog.info? 103 = some Tryz.t103 := Tryz.type103
@[simp] theorem Tryz.size103 : Tryz.t103.size = 1 := rfl
@[simp] theorem Tryz.bytes103 : Tryz.t103.bytes = 8 := rfl
@[simp] theorem Tryz.zero103 : Tryz.t103.zero = some (.nilFunc) := rfl
attribute [simp] Tryz.underlying103
@[simp] theorem Tryz.info104 : Tryz.prog.info? 104 = some Tryz.t104 := Tryz.type104
@[simp] theorem Tryz.size104 : Tryz.t104.size = 8 := rfl
@[simp] theorem Tryz.bytes104 : Tryz.t104.bytes = 144 := rfl
@[simp] theorem Tryz.zero104 : Tryz.t104.zero = some (.agg #[.slice none 0 0, .slice none 0 0, .int .u64 0, .int .u64 0, .int .u64 0, .slice none 0 0, .slice none 0 0, .slice none 0 0]) := rfl
attribute [simp] Tryz.underlying104
@[simp] theorem Tryz.info105 : Tryz.prog.info? 105 = some Tryz.t105 := Tryz.type105
@[simp] theorem Tryz.size105 : Tryz.t105.size = 8 := rfl
@[simp] theorem Tryz.bytes105 : Tryz.t105.bytes = 144 := rfl
@[simp] theorem Tryz.zero105 : Tryz.t105.zero = some (.agg #[.slice none 0 0, .slice none 0 0, .int .u64 0, .int .u64 0, .int .u64 0, .slice none 0 0, .slice none 0 0, .slice none 0 0]) := rfl
attribute [simp] Tryz.underlying105
@[simp] theorem Tryz.info106 : Tryz.prog.info? 106 = some Tryz.t106 := Tryz.type106
@[simp] theorem Tryz.size106 : Tryz.t106.size = 1 := rfl
@[simp] theorem Tryz.bytes106 : Tryz.t106.bytes = 24 := rfl
@[simp] theorem Tryz.zero106 : Tryz.t106.zero = some (.slice none 0 0) := rfl
attribute [simp] Tryz.underlying106
@[simp] theorem Tryz.info107 : Tryz.prog.info? 107 = some Tryz.t107 := Tryz.type107
@[simp] theorem Tryz.size107 : Tryz.t107.size = 1 := rfl
@[simp] theorem Tryz.bytes107 : Tryz.t107.bytes = 24 := rfl
@[simp] theorem Tryz.zero107 : Tryz.t107.zero = some (.slice none 0 0) := rfl
attribute [simp] Tryz.underlying107
@[simp] theorem Tryz.info108 : Tryz.prog.info? 108 = some Tryz.t108 := Tryz.type108
@[simp] theorem Tryz.size108 : Tryz.t108.size = 1 := rfl
@[simp] theorem Tryz.bytes108 : Tryz.t108.bytes = 24 := rfl
@[simp] theorem Tryz.zero108 : Tryz.t108.zero = some (.slice none 0 0) := rfl
attribute [simp] Tryz.underlying108
@[simp] theorem Tryz.info109 : Tryz.prog.info? 109 = some Tryz.t109 := Tryz.type109
@[simp] theorem Tryz.size109 : Tryz.t109.size = 12 := rfl
@[simp] theorem Tryz.bytes109 : Tryz.t109.bytes = 240 := rfl
@[simp] theorem Tryz.zero109 : Tryz.t109.zero = some (.agg #[.slice none 0 0, .slice none 0 0, .int .u64 0, .int .u64 0, .int .u64 0, .slice none 0 0, .slice none 0 0, .slice none 0 0, .slice none 0 0, .slice none 0 0, .slice none 0 0, .slice none 0 0]) := rfl
attribute [simp] Tryz.underlying109
@[simp] theorem Tryz.info110 : Tryz.prog.info? 110 = some Tryz.t110 := Tryz.type110
@[simp] theorem Tryz.size110 : Tryz.t110.size = 12 := rfl
@[simp] theorem Tryz.bytes110 : Tryz.t110.bytes = 240 := rfl
@[simp] theorem Tryz.zero110 : Tryz.t110.zero = some (.agg #[.slice none 0 0, .slice none 0 0, .int .u64 0, .int .u64 0, .int .u64 0, .slice none 0 0, .slice none 0 0, .slice none 0 0, .slice none 0 0, .slice none 0 0, .slice none 0 0, .slice none 0 0]) := rfl
attribute [simp] Tryz.underlying110
@[simp] theorem Tryz.info111 : Tryz.prog.info? 111 = some Tryz.t111 := Tryz.type111
@[simp] theorem Tryz.size111 : Tryz.t111.size = 1 := rfl
@[simp] theorem Tryz.bytes111 : Tryz.t111.bytes = 0 := rfl
@[simp] theorem Tryz.zero111 : Tryz.t111.zero = some (.tuple #[.agg #[.slice none 0 0, .slice none 0 0, .int .u64 0, .int .u64 0, .int .u64 0, .slice none 0 0, .slice none 0 0, .slice none 0 0, .slice none 0 0, .slice none 0 0, .slice none 0 0, .slice none 0 0], .int .i64 0, .int .i64 0, .int .i64 0]) := rfl
attribute [simp] Tryz.underlying111
@[simp] theorem Tryz.info112 : Tryz.prog.info? 112 = some Tryz.t112 := Tryz.type112
@[simp] theorem Tryz.size112 : Tryz.t112.size = 1 := rfl
@[simp] theorem Tryz.bytes112 : Tryz.t112.bytes = 8 := rfl
@[simp] theorem Tryz.zero112 : Tryz.t112.zero = some (.nilFunc) := rfl
attribute [simp] Tryz.underlying112
@[simp] theorem Tryz.info113 : Tryz.prog.info? 113 = some Tryz.t113 := Tryz.type113
@[simp] theorem Tryz.size113 : Tryz.t113.size = 1 := rfl
@[simp] theorem Tryz.bytes113 : Tryz.t113.bytes = 0 := rfl
@[simp] theorem Tryz.zero113 : Tryz.t113.zero = some (.tuple #[.pointer none, .int .i64 0]) := rfl
attribute [simp] Tryz.underlying113
@[simp] theorem Tryz.info114 : Tryz.prog.info? 114 = some Tryz.t114 := Tryz.type114
@[simp] theorem Tryz.size114 : Tryz.t114.size = 1 := rfl
@[simp] theorem Tryz.bytes114 : Tryz.t114.bytes = 8 := rfl
@[simp] theorem Tryz.zero114 : Tryz.t114.zero = some (.nilFunc) := rfl
attribute [simp] Tryz.underlying114
@[simp] theorem Tryz.info115 : Tryz.prog.info? 115 = some Tryz.t115 := Tryz.type115
@[simp] theorem Tryz.size115 : Tryz.t115.size = 1 := rfl
@[simp] theorem Tryz.bytes115 : Tryz.t115.bytes = 8 := rfl
@[simp] theorem Tryz.zero115 : Tryz.t115.zero = some (.nilFunc) := rfl
attribute [simp] Tryz.underlying115
@[simp] theorem Tryz.info116 : Tryz.prog.info? 116 = some Tryz.t116 := Tryz.type116
@[simp] theorem Tryz.size116 : Tryz.t116.size = 1 := rfl
@[simp] theorem Tryz.bytes116 : Tryz.t116.bytes = 8 := rfl
@[simp] theorem Tryz.zero116 : Tryz.t116.zero = some (.nilFunc) := rfl
attribute [simp] Tryz.underlying116
@[simp] theorem Tryz.info117 : Tryz.prog.info? 117 = some Tryz.t117 := Tryz.type117
@[simp] theorem Tryz.size117 : Tryz.t117.size = 1 := rfl
@[simp] theorem Tryz.bytes117 : Tryz.t117.bytes = 0 := rfl
@[simp] theorem Tryz.zero117 : Tryz.t117.zero = some (.tuple #[.agg #[.int .i64 0, .int .i64 0, .int .i64 0, .int .i64 0, .int .i64 0, .int .i64 0, .int .u64 0, .int .u64 0, .bool false], .slice none 0 0]) := rfl
attribute [simp] Tryz.underlying117
@[simp] theorem Tryz.info118 : Tryz.prog.info? 118 = some Tryz.t118 := Tryz.type118
@[simp] theorem Tryz.size118 : Tryz.t118.size = 1 := rfl
@[simp] theorem Tryz.bytes118 : Tryz.t118.bytes = 8 := rfl
@[simp] theorem Tryz.zero118 : Tryz.t118.zero = some (.nilFunc) := rfl
attribute [simp] Tryz.underlying118
@[simp] theorem Tryz.info119 : Tryz.prog.info? 119 = some Tryz.t119 := Tryz.type119
@[simp] theorem Tryz.size119 : Tryz.t119.size = 1 := rfl
@[simp] theorem Tryz.bytes119 : Tryz.t119.bytes = 8 := rfl
@[simp] theorem Tryz.zero119 : Tryz.t119.zero = some (.nilFunc) := rfl
attribute [simp] Tryz.underlying119
@[simp] theorem Tryz.info120 : Tryz.prog.info? 120 = some Tryz.t120 := Tryz.type120
@[simp] theorem Tryz.size120 : Tryz.t120.size = 1 := rfl
@[simp] theorem Tryz.bytes120 : Tryz.t120.bytes = 8 := rfl
@[simp] theorem Tryz.zero120 : Tryz.t120.zero = some (.nilFunc) := rfl
attribute [simp] Tryz.underlying120
@[simp] theorem Tryz.info121 : Tryz.prog.info? 121 = some Tryz.t121 := Tryz.type121
@[simp] theorem Tryz.size121 : Tryz.t121.size = 1 := rfl
@[simp] theorem Tryz.bytes121 : Tryz.t121.bytes = 8 := rfl
@[simp] theorem Tryz.zero121 : Tryz.t121.zero = some (.nilFunc) := rfl
attribute [simp] Tryz.underlying121
@[simp] theorem Tryz.info122 : Tryz.prog.info? 122 = some Tryz.t122 := Tryz.type122
@[simp] theorem Tryz.size122 : Tryz.t122.size = 1 := rfl
@[simp] theorem Tryz.bytes122 : Tryz.t122.bytes = 0 := rfl
@[simp] theorem Tryz.zero122 : Tryz.t122.zero = some (.tuple #[.int .i64 0, .int .i64 0, .bool false]) := rfl
attribute [simp] Tryz.underlying122
@[simp] theorem Tryz.info123 : Tryz.prog.info? 123 = some Tryz.t123 := Tryz.type123
@[simp] theorem Tryz.size123 : Tryz.t123.size = 1 := rfl
@[simp] theorem Tryz.bytes123 : Tryz.t123.bytes = 8 := rfl
@[simp] theorem Tryz.zero123 : Tryz.t123.zero = some (.nilFunc) := rfl
attribute [simp] Tryz.underlying123
@[simp] theorem Tryz.info124 : Tryz.prog.info? 124 = some Tryz.t124 := Tryz.type124
@[simp] theorem Tryz.size124 : Tryz.t124.size = 1 := rfl
@[simp] theorem Tryz.bytes124 : Tryz.t124.bytes = 8 := rfl
@[simp] theorem Tryz.zero124 : Tryz.t124.zero = some (.nilFunc) := rfl
attribute [simp] Tryz.underlying124
@[simp] theorem Tryz.info125 : Tryz.prog.info? 125 = some Tryz.t125 := Tryz.type125
@[simp] theorem Tryz.size125 : Tryz.t125.size = 1 := rfl
@[simp] theorem Tryz.bytes125 : Tryz.t125.bytes = 24 := rfl
@[simp] theorem Tryz.zero125 : Tryz.t125.zero = some (.slice none 0 0) := rfl
attribute [simp] Tryz.underlying125
@[simp] theorem Tryz.info126 : Tryz.prog.info? 126 = some Tryz.t126 := Tryz.type126
@[simp] theorem Tryz.size126 : Tryz.t126.size = 14 := rfl
@[simp] theorem Tryz.bytes126 : Tryz.t126.bytes = 128 := rfl
@[simp] theorem Tryz.zero126 : Tryz.t126.zero = some (.agg #[.int .i64 0, .int .i64 0, .int .i64 0, .int .i64 0, .int .i64 0, .int .i64 0, .int .i64 0, .int .i64 0, .int .i64 0, .int .i64 0, .int .i64 0, .int .i64 0, .bool false, .slice none 0 0]) := rfl
attribute [simp] Tryz.underlying126
@[simp] theorem Tryz.info127 : Tryz.prog.info? 127 = some Tryz.t127 := Tryz.type127
@[simp] theorem Tryz.size127 : Tryz.t127.size = 14 := rfl
@[simp] theorem Tryz.bytes127 : Tryz.t127.bytes = 128 := rfl
@[simp] theorem Tryz.zero127 : Tryz.t127.zero = some (.agg #[.int .i64 0, .int .i64 0, .int .i64 0, .int .i64 0, .int .i64 0, .int .i64 0, .int .i64 0, .int .i64 0, .int .i64 0, .int .i64 0, .int .i64 0, .int .i64 0, .bool false, .slice none 0 0]) := rfl
attribute [simp] Tryz.underlying127
@[simp] theorem Tryz.info128 : Tryz.prog.info? 128 = some Tryz.t128 := Tryz.type128
@[simp] theorem Tryz.size128 : Tryz.t128.size = 1 := rfl
@[simp] theorem Tryz.bytes128 : Tryz.t128.bytes = 8 := rfl
@[simp] theorem Tryz.zero128 : Tryz.t128.zero = some (.nilFunc) := rfl
attribute [simp] Tryz.underlying128
@[simp] theorem Tryz.info129 : Tryz.prog.info? 129 = some Tryz.t129 := Tryz.type129
@[simp] theorem Tryz.size129 : Tryz.t129.size = 1 := rfl
@[simp] theorem Tryz.bytes129 : Tryz.t129.bytes = 8 := rfl
@[simp] theorem Tryz.zero129 : Tryz.t129.zero = some (.nilFunc) := rfl
attribute [simp] Tryz.underlying129
@[simp] theorem Tryz.info130 : Tryz.prog.info? 130 = some Tryz.t130 := Tryz.type130
@[simp] theorem Tryz.size130 : Tryz.t130.size = 1 := rfl
@[simp] theorem Tryz.bytes130 : Tryz.t130.bytes = 0 := rfl
@[simp] theorem Tryz.zero130 : Tryz.t130.zero = some (.tuple #[.int .i64 0, .bool false]) := rfl
attribute [simp] Tryz.underlying130
@[simp] theorem Tryz.info131 : Tryz.prog.info? 131 = some Tryz.t131 := Tryz.type131
@[simp] theorem Tryz.size131 : Tryz.t131.size = 1 := rfl
@[simp] theorem Tryz.bytes131 : Tryz.t131.bytes = 8 := rfl
@[simp] theorem Tryz.zero131 : Tryz.t131.zero = some (.nilFunc) := rfl
attribute [simp] Tryz.underlying131
@[simp] theorem Tryz.info132 : Tryz.prog.info? 132 = some Tryz.t132 := Tryz.type132
@[simp] theorem Tryz.size132 : Tryz.t132.size = 1 := rfl
@[simp] theorem Tryz.bytes132 : Tryz.t132.bytes = 8 := rfl
@[simp] theorem Tryz.zero132 : Tryz.t132.zero = some (.nilFunc) := rfl
attribute [simp] Tryz.underlying132
@[simp] theorem Tryz.info133 : Tryz.prog.info? 133 = some Tryz.t133 := Tryz.type133
@[simp] theorem Tryz.size133 : Tryz.t133.size = 1 := rfl
@[simp] theorem Tryz.bytes133 : Tryz.t133.bytes = 24 := rfl
@[simp] theorem Tryz.zero133 : Tryz.t133.zero = some (.slice none 0 0) := rfl
attribute [simp] Tryz.underlying133
@[simp] theorem Tryz.info134 : Tryz.prog.info? 134 = some Tryz.t134 := Tryz.type134
@[simp] theorem Tryz.size134 : Tryz.t134.size = 4 := rfl
@[simp] theorem Tryz.bytes134 : Tryz.t134.bytes = 80 := rfl
@[simp] theorem Tryz.zero134 : Tryz.t134.zero = some (.agg #[.pointer none, .slice none 0 0, .slice none 0 0, .slice none 0 0]) := rfl
attribute [simp] Tryz.underlying134
@[simp] theorem Tryz.info135 : Tryz.prog.info? 135 = some Tryz.t135 := Tryz.type135
@[simp] theorem Tryz.size135 : Tryz.t135.size = 4 := rfl
@[simp] theorem Tryz.bytes135 : Tryz.t135.bytes = 80 := rfl
@[simp] theorem Tryz.zero135 : Tryz.t135.zero = some (.agg #[.pointer none, .slice none 0 0, .slice none 0 0, .slice none 0 0]) := rfl
attribute [simp] Tryz.underlying135
@[simp] theorem Tryz.info136 : Tryz.prog.info? 136 = some Tryz.t136 := Tryz.type136
@[simp] theorem Tryz.size136 : Tryz.t136.size = 6 := rfl
@[simp] theorem Tryz.bytes136 : Tryz.t136.bytes = 80 := rfl
@[simp] theorem Tryz.zero136 : Tryz.t136.zero = some (.agg #[.int .i64 0, .int .i64 0, .int .i64 0, .int .i64 0, .slice none 0 0, .slice none 0 0]) := rfl
attribute [simp] Tryz.underlying136
@[simp] theorem Tryz.info137 : Tryz.prog.info? 137 = some Tryz.t137 := Tryz.type137
@[simp] theorem Tryz.size137 : Tryz.t137.size = 6 := rfl
@[simp] theorem Tryz.bytes137 : Tryz.t137.bytes = 80 := rfl
@[simp] theorem Tryz.zero137 : Tryz.t137.zero = some (.agg #[.int .i64 0, .int .i64 0, .int .i64 0, .int .i64 0, .slice none 0 0, .slice none 0 0]) := rfl
attribute [simp] Tryz.underlying137
@[simp] theorem Tryz.info138 : Tryz.prog.info? 138 = some Tryz.t138 := Tryz.type138
@[simp] theorem Tryz.size138 : Tryz.t138.size = 1 := rfl
@[simp] theorem Tryz.bytes138 : Tryz.t138.bytes = 8 := rfl
@[simp] theorem Tryz.zero138 : Tryz.t138.zero = some (.nilFunc) := rfl
attribute [simp] Tryz.underlying138
@[simp] theorem Tryz.info139 : Tryz.prog.info? 139 = some Tryz.t139 := Tryz.type139
@[simp] theorem Tryz.size139 : Tryz.t139.size = 1 := rfl
@[simp] theorem Tryz.bytes139 : Tryz.t139.bytes = 8 := rfl
@[simp] theorem Tryz.zero139 : Tryz.t139.zero = some (.nilFunc) := rfl
attribute [simp] Tryz.underlying139
@[simp] theorem Tryz.info140 : Tryz.prog.info? 140 = some Tryz.t140 := Tryz.type140
@[simp] theorem Tryz.size140 : Tryz.t140.size = 1 := rfl
@[simp] theorem Tryz.bytes140 : Tryz.t140.bytes = 8 := rfl
@[simp] theorem Tryz.zero140 : Tryz.t140.zero = some (.nilFunc) := rfl
attribute [simp] Tryz.underlying140
@[simp] theorem Tryz.info141 : Tryz.prog.info? 141 = some Tryz.t141 := Tryz.type141
@[simp] theorem Tryz.size141 : Tryz.t141.size = 1 := rfl
@[simp] theorem Tryz.bytes141 : Tryz.t141.bytes = 0 := rfl
@[simp] theorem Tryz.zero141 : Tryz.t141.zero = some (.tuple #[.slice none 0 0, .slice none 0 0]) := rfl
attribute [simp] Tryz.underlying141
@[simp] theorem Tryz.info142 : Tryz.prog.info? 142 = some Tryz.t142 := Tryz.type142
@[simp] theorem Tryz.size142 : Tryz.t142.size = 1 := rfl
@[simp] theorem Tryz.bytes142 : Tryz.t142.bytes = 8 := rfl
@[simp] theorem Tryz.zero142 : Tryz.t142.zero = some (.nilFunc) := rfl
attribute [simp] Tryz.underlying142
@[simp] theorem Tryz.info143 : Tryz.prog.info? 143 = some Tryz.t143 := Tryz.type143
@[simp] theorem Tryz.size143 : Tryz.t143.size = 1 := rfl
@[simp] theorem Tryz.bytes143 : Tryz.t143.bytes = 8 := rfl
@[simp] theorem Tryz.zero143 : Tryz.t143.zero = some (.nilFunc) := rfl
attribute [simp] Tryz.underlying143
@[simp] theorem Tryz.info144 : Tryz.prog.info? 144 = some Tryz.t144 := Tryz.type144
@[simp] theorem Tryz.size144 : Tryz.t144.size = 1 := rfl
@[simp] theorem Tryz.bytes144 : Tryz.t144.bytes = 8 := rfl
@[simp] theorem Tryz.zero144 : Tryz.t144.zero = some (.map none) := rfl
attribute [simp] Tryz.underlying144
@[simp] theorem Tryz.info145 : Tryz.prog.info? 145 = some Tryz.t145 := Tryz.type145
@[simp] theorem Tryz.size145 : Tryz.t145.size = 1 := rfl
@[simp] theorem Tryz.bytes145 : Tryz.t145.bytes = 8 := rfl
@[simp] theorem Tryz.zero145 : Tryz.t145.zero = some (.agg #[.map none]) := rfl
attribute [simp] Tryz.underlying145
@[simp] theorem Tryz.info146 : Tryz.prog.info? 146 = some Tryz.t146 := Tryz.type146
@[simp] theorem Tryz.size146 : Tryz.t146.size = 1 := rfl
@[simp] theorem Tryz.bytes146 : Tryz.t146.bytes = 8 := rfl
@[simp] theorem Tryz.zero146 : Tryz.t146.zero = some (.agg #[.map none]) := rfl
attribute [simp] Tryz.underlying146
@[simp] theorem Tryz.info147 : Tryz.prog.info? 147 = some Tryz.t147 := Tryz.type147
@[simp] theorem Tryz.size147 : Tryz.t147.size = 21 := rfl
@[simp] theorem Tryz.bytes147 : Tryz.t147.bytes = 248 := rfl
@[simp] theorem Tryz.zero147 : Tryz.t147.zero = some (.agg #[.int .i64 0, .int .i64 0, .int .i64 0, .int .i64 0, .int .i64 0, .int .i64 0, .int .i64 0, .int .i64 0, .int .i64 0, .int .i64 0, .int .i64 0, .int .i64 0, .bool false, .slice none 0 0, .slice none 0 0, .int .u64 0, .int .u64 0, .int .u64 0, .slice none 0 0, .slice none 0 0, .slice none 0 0]) := rfl
attribute [simp] Tryz.underlying147
@[simp] theorem Tryz.info148 : Tryz.prog.info? 148 = some Tryz.t148 := Tryz.type148
@[simp] theorem Tryz.size148 : Tryz.t148.size = 21 := rfl
@[simp] theorem Tryz.bytes148 : Tryz.t148.bytes = 248 := rfl
@[simp] theorem Tryz.zero148 : Tryz.t148.zero = some (.agg #[.int .i64 0, .int .i64 0, .int .i64 0, .int .i64 0, .int .i64 0, .int .i64 0, .int .i64 0, .int .i64 0, .int .i64 0, .int .i64 0, .int .i64 0, .int .i64 0, .bool false, .slice none 0 0, .slice none 0 0, .int .u64 0, .int .u64 0, .int .u64 0, .slice none 0 0, .slice none 0 0, .slice none 0 0]) := rfl
attribute [simp] Tryz.underlying148
@[simp] theorem Tryz.info149 : Tryz.prog.info? 149 = some Tryz.t149 := Tryz.type149
@[simp] theorem Tryz.size149 : Tryz.t149.size = 1 := rfl
@[simp] theorem Tryz.bytes149 : Tryz.t149.bytes = 8 := rfl
@[simp] theorem Tryz.zero149 : Tryz.t149.zero = some (.nilFunc) := rfl
attribute [simp] Tryz.underlying149
@[simp] theorem Tryz.info150 : Tryz.prog.info? 150 = some Tryz.t150 := Tryz.type150
@[simp] theorem Tryz.size150 : Tryz.t150.size = 1 := rfl
@[simp] theorem Tryz.bytes150 : Tryz.t150.bytes = 8 := rfl
@[simp] theorem Tryz.zero150 : Tryz.t150.zero = some (.nilFunc) := rfl
attribute [simp] Tryz.underlying150
@[simp] theorem Tryz.info151 : Tryz.prog.info? 151 = some Tryz.t151 := Tryz.type151
@[simp] theorem Tryz.size151 : Tryz.t151.size = 1 := rfl
@[simp] theorem Tryz.bytes151 : Tryz.t151.bytes = 8 := rfl
@[simp] theorem Tryz.zero151 : Tryz.t151.zero = some (.nilFunc) := rfl
attribute [simp] Tryz.underlying151
@[simp] theorem Tryz.info152 : Tryz.prog.info? 152 = some Tryz.t152 := Tryz.type152
@[simp] theorem Tryz.size152 : Tryz.t152.size = 1 := rfl
@[simp] theorem Tryz.bytes152 : Tryz.t152.bytes = 8 := rfl
@[simp] theorem Tryz.zero152 : Tryz.t152.zero = some (.nilFunc) := rfl
attribute [simp] Tryz.underlying152
@[simp] theorem Tryz.info153 : Tryz.prog.info? 153 = some Tryz.t153 := Tryz.type153
@[simp] theorem Tryz.size153 : Tryz.t153.size = 1 := rfl
@[simp] theorem Tryz.bytes153 : Tryz.t153.bytes = 8 := rfl
@[simp] theorem Tryz.zero153 : Tryz.t153.zero = some (.nilFunc) := rfl
attribute [simp] Tryz.underlying153
@[simp] theorem Tryz.info154 : Tryz.prog.info? 154 = some Tryz.t154 := Tryz.type154
@[simp] theorem Tryz.size154 : Tryz.t154.size = 1 := rfl
@[simp] theorem Tryz.bytes154 : Tryz.t154.bytes = 8 := rfl
@[simp] theorem Tryz.zero154 : Tryz.t154.zero = some (.pointer none) := rfl
attribute [simp] Tryz.underlying154
@[simp] theorem Tryz.info155 : Tryz.prog.info? 155 = some Tryz.t155 := Tryz.type155
@[simp] theorem Tryz.size155 : Tryz.t155.size = 1 := rfl
@[simp] theorem Tryz.bytes155 : Tryz.t155.bytes = 8 := rfl
@[simp] theorem Tryz.zero155 : Tryz.t155.zero = some (.pointer none) := rfl
attribute [simp] Tryz.underlying155
@[simp] theorem Tryz.info156 : Tryz.prog.info? 156 = some Tryz.t156 := Tryz.type156
@[simp] theorem Tryz.size156 : Tryz.t156.size = 5 := rfl
@[simp] theorem Tryz.bytes156 : Tryz.t156.bytes = 88 := rfl
@[simp] theorem Tryz.zero156 : Tryz.t156.zero = some (.agg #[.pointer none, .pointer none, .slice none 0 0, .slice none 0 0, .slice none 0 0]) := rfl
attribute [simp] Tryz.underlying156
@[simp] theorem Tryz.info157 : Tryz.prog.info? 157 = some Tryz.t157 := Tryz.type157
@[simp] theorem Tryz.size157 : Tryz.t157.size = 5 := rfl
@[simp] theorem Tryz.bytes157 : Tryz.t157.bytes = 88 := rfl
@[simp] theorem Tryz.zero157 : Tryz.t157.zero = some (.agg #[.pointer none, .pointer none, .slice none 0 0, .slice none 0 0, .slice none 0 0]) := rfl
attribute [simp] Tryz.underlying157
@[simp] theorem Tryz.info158 : Tryz.prog.info? 158 = some Tryz.t158 := Tryz.type158
@[simp] theorem Tryz.size158 : Tryz.t158.size = 1 := rfl
@[simp] theorem Tryz.bytes158 : Tryz.t158.bytes = 8 := rfl
@[simp] theorem Tryz.zero158 : Tryz.t158.zero = some (.pointer none) := rfl
attribute [simp] Tryz.underlying158
@[simp] theorem Tryz.info159 : Tryz.prog.info? 159 = some Tryz.t159 := Tryz.type159
@[simp] theorem Tryz.size159 : Tryz.t159.size = 1 := rfl
@[simp] theorem Tryz.bytes159 : Tryz.t159.bytes = 8 := rfl
@[simp] theorem Tryz.zero159 : Tryz.t159.zero = some (.pointer none) := rfl
attribute [simp] Tryz.underlying159
@[simp] theorem Tryz.info160 : Tryz.prog.info? 160 = some Tryz.t160 := Tryz.type160
@[simp] theorem Tryz.size160 : Tryz.t160.size = 1 := rfl
@[simp] theorem Tryz.bytes160 : Tryz.t160.bytes = 8 := rfl
@[simp] theorem Tryz.zero160 : Tryz.t160.zero = some (.pointer none) := rfl
attribute [simp] Tryz.underlying160
@[simp] theorem Tryz.info161 : Tryz.prog.info? 161 = some Tryz.t161 := Tryz.type161
@[simp] theorem Tryz.size161 : Tryz.t161.size = 1 := rfl
@[simp] theorem Tryz.bytes161 : Tryz.t161.bytes = 8 := rfl
@[simp] theorem Tryz.zero161 : Tryz.t161.zero = some (.pointer none) := rfl
attribute [simp] Tryz.underlying161
@[simp] theorem Tryz.info162 : Tryz.prog.info? 162 = some Tryz.t162 := Tryz.type162
@[simp] theorem Tryz.size162 : Tryz.t162.size = 1 := rfl
@[simp] theorem Tryz.bytes162 : Tryz.t162.bytes = 8 := rfl
@[simp] theorem Tryz.zero162 : Tryz.t162.zero = some (.pointer none) := rfl
attribute [simp] Tryz.underlying162
@[simp] theorem Tryz.info163 : Tryz.prog.info? 163 = some Tryz.t163 := Tryz.type163
@[simp] theorem Tryz.size163 : Tryz.t163.size = 1 := rfl
@[simp] theorem Tryz.bytes163 : Tryz.t163.bytes = 8 := rfl
@[simp] theorem Tryz.zero163 : Tryz.t163.zero = some (.pointer none) := rfl
attribute [simp] Tryz.underlying163
@[simp] theorem Tryz.info164 : Tryz.prog.info? 164 = some Tryz.t164 := Tryz.type164
@[simp] theorem Tryz.size164 : Tryz.t164.size = 1 := rfl
@[simp] theorem Tryz.bytes164 : Tryz.t164.bytes = 8 := rfl
@[simp] theorem Tryz.zero164 : Tryz.t164.zero = some (.pointer none) := rfl
attribute [simp] Tryz.underlying164
@[simp] theorem Tryz.info165 : Tryz.prog.info? 165 = some Tryz.t165 := Tryz.type165
@[simp] theorem Tryz.size165 : Tryz.t165.size = 1 := rfl
@[simp] theorem Tryz.bytes165 : Tryz.t165.bytes = 8 := rfl
@[simp] theorem Tryz.zero165 : Tryz.t165.zero = some (.pointer none) := rfl
attribute [simp] Tryz.underlying165
@[simp] theorem Tryz.info166 : Tryz.prog.info? 166 = some Tryz.t166 := Tryz.type166
@[simp] theorem Tryz.size166 : Tryz.t166.size = 1 := rfl
@[simp] theorem Tryz.bytes166 : Tryz.t166.bytes = 8 := rfl
@[simp] theorem Tryz.zero166 : Tryz.t166.zero = some (.pointer none) := rfl
attribute [simp] Tryz.underlying166
@[simp] theorem Tryz.info167 : Tryz.prog.info? 167 = some Tryz.t167 := Tryz.type167
@[simp] theorem Tryz.size167 : Tryz.t167.size = 10 := rfl
@[simp] theorem Tryz.bytes167 : Tryz.t167.bytes = 80 := rfl
@[simp] theorem Tryz.zero167 : Tryz.t167.zero = some (.agg #[.pointer none, .pointer none, .int .i64 0, .pointer none, .pointer none, .pointer none, .pointer none, .pointer none, .pointer none, .pointer none]) := rfl
attribute [simp] Tryz.underlying167
@[simp] theorem Tryz.info168 : Tryz.prog.info? 168 = some Tryz.t168 := Tryz.type168
@[simp] theorem Tryz.size168 : Tryz.t168.size = 10 := rfl
@[simp] theorem Tryz.bytes168 : Tryz.t168.bytes = 80 := rfl
@[simp] theorem Tryz.zero168 : Tryz.t168.zero = some (.agg #[.pointer none, .pointer none, .int .i64 0, .pointer none, .pointer none, .pointer none, .pointer none, .pointer none, .pointer none, .pointer none]) := rfl
attribute [simp] Tryz.underlying168
@[simp] theorem Tryz.info169 : Tryz.prog.info? 169 = some Tryz.t169 := Tryz.type169
@[simp] theorem Tryz.size169 : Tryz.t169.size = 1 := rfl
@[simp] theorem Tryz.bytes169 : Tryz.t169.bytes = 8 := rfl
@[simp] theorem Tryz.zero169 : Tryz.t169.zero = some (.nilFunc) := rfl
attribute [simp] Tryz.underlying169
@[simp] theorem Tryz.info170 : Tryz.prog.info? 170 = some Tryz.t170 := Tryz.type170
@[simp] theorem Tryz.size170 : Tryz.t170.size = 40 := rfl
@[simp] theorem Tryz.bytes170 : Tryz.t170.bytes = 384 := rfl
@[simp] theorem Tryz.zero170 : Tryz.t170.zero = some (.agg #[.pointer none, .pointer none, .slice none 0 0, .slice none 0 0, .slice none 0 0, .pointer none, .pointer none, .int .i64 0, .pointer none, .pointer none, .pointer none, .pointer none, .pointer none, .pointer none, .pointer none, .int .i64 0, .int .i64 0, .int .i64 0, .int .i64 0, .int .i64 0, .int .i64 0, .int .i64 0, .int .i64 0, .int .i64 0, .int .i64 0, .int .i64 0, .int .i64 0, .bool false, .int .i64 0, .int .i64 0, .int .i64 0, .int .i64 0, .nilFunc, .nilFunc, .int .i64 0, .int .u64 0, .slice none 0 0, .int .u64 0, .bool false, .int .i64 0]) := rfl
attribute [simp] Tryz.underlying170
@[simp] theorem Tryz.info171 : Tryz.prog.info? 171 = some Tryz.t171 := Tryz.type171
@[simp] theorem Tryz.size171 : Tryz.t171.size = 40 := rfl
@[simp] theorem Tryz.bytes171 : Tryz.t171.bytes = 384 := rfl
@[simp] theorem Tryz.zero171 : Tryz.t171.zero = some (.agg #[.pointer none, .pointer none, .slice none 0 0, .slice none 0 0, .slice none 0 0, .pointer none, .pointer none, .int .i64 0, .pointer none, .pointer none, .pointer none, .pointer none, .pointer none, .pointer none, .pointer none, .int .i64 0, .int .i64 0, .int .i64 0, .int .i64 0, .int .i64 0, .int .i64 0, .int .i64 0, .int .i64 0, .int .i64 0, .int .i64 0, .int .i64 0, .int .i64 0, .bool false, .int .i64 0, .int .i64 0, .int .i64 0, .int .i64 0, .nilFunc, .nilFunc, .int .i64 0, .int .u64 0, .slice none 0 0, .int .u64 0, .bool false, .int .i64 0]) := rfl
attribute [simp] Tryz.underlying171
@[simp] theorem Tryz.info172 : Tryz.prog.info? 172 = some Tryz.t172 := Tryz.type172
@[simp] theorem Tryz.size172 : Tryz.t172.size = 1 := rfl
@[simp] theorem Tryz.bytes172 : Tryz.t172.bytes = 0 := rfl
@[simp] theorem Tryz.zero172 : Tryz.t172.zero = some (.tuple #[.agg #[.int .i64 0, .int .i64 0, .int .i64 0, .int .u64 0, .int .u64 0, .bool false], .int .i64 0]) := rfl
attribute [simp] Tryz.underlying172
@[simp] theorem Tryz.info173 : Tryz.prog.info? 173 = some Tryz.t173 := Tryz.type173
@[simp] theorem Tryz.size173 : Tryz.t173.size = 1 := rfl
@[simp] theorem Tryz.bytes173 : Tryz.t173.bytes = 8 := rfl
@[simp] theorem Tryz.zero173 : Tryz.t173.zero = some (.nilFunc) := rfl
attribute [simp] Tryz.underlying173
@[simp] theorem Tryz.info174 : Tryz.prog.info? 174 = some Tryz.t174 := Tryz.type174
@[simp] theorem Tryz.size174 : Tryz.t174.size = 1 := rfl
@[simp] theorem Tryz.bytes174 : Tryz.t174.bytes = 0 := rfl
@[simp] theorem Tryz.zero174 : Tryz.t174.zero = some (.tuple #[.slice none 0 0, .slice none 0 0]) := rfl
attribute [simp] Tryz.underlying174
@[simp] theorem Tryz.info175 : Tryz.prog.info? 175 = some Tryz.t175 := Tryz.type175
@[simp] theorem Tryz.size175 : Tryz.t175.size = 1 := rfl
@[simp] theorem Tryz.bytes175 : Tryz.t175.bytes = 8 := rfl
@[simp] theorem Tryz.zero175 : Tryz.t175.zero = some (.nilFunc) := rfl
attribute [simp] Tryz.underlying175
@[simp] theorem Tryz.info176 : Tryz.prog.info? 176 = some Tryz.t176 := Tryz.type176
@[simp] theorem Tryz.size176 : Tryz.t176.size = 1 := rfl
@[simp] theorem Tryz.bytes176 : Tryz.t176.bytes = 8 := rfl
@[simp] theorem Tryz.zero176 : Tryz.t176.zero = some (.nilFunc) := rfl
attribute [simp] Tryz.underlying176
@[simp] theorem Tryz.info177 : Tryz.prog.info? 177 = some Tryz.t177 := Tryz.type177
@[simp] theorem Tryz.size177 : Tryz.t177.size = 1 := rfl
@[simp] theorem Tryz.bytes177 : Tryz.t177.bytes = 8 := rfl
@[simp] theorem Tryz.zero177 : Tryz.t177.zero = some (.nilFunc) := rfl
attribute [simp] Tryz.underlying177
@[simp] theorem Tryz.info178 : Tryz.prog.info? 178 = some Tryz.t178 := Tryz.type178
@[simp] theorem Tryz.size178 : Tryz.t178.size = 1 := rfl
@[simp] theorem Tryz.bytes178 : Tryz.t178.bytes = 8 := rfl
@[simp] theorem Tryz.zero178 : Tryz.t178.zero = some (.nilFunc) := rfl
attribute [simp] Tryz.underlying178
@[simp] theorem Tryz.info179 : Tryz.prog.info? 179 = some Tryz.t179 := Tryz.type179
@[simp] theorem Tryz.size179 : Tryz.t179.size = 1 := rfl
@[simp] theorem Tryz.bytes179 : Tryz.t179.bytes = 8 := rfl
@[simp] theorem Tryz.zero179 : Tryz.t179.zero = some (.nilFunc) := rfl
attribute [simp] Tryz.underlying179
@[simp] theorem Tryz.info180 : Tryz.prog.info? 180 = some Tryz.t180 := Tryz.type180
@[simp] theorem Tryz.size180 : Tryz.t180.size = 1 := rfl
@[simp] theorem Tryz.bytes180 : Tryz.t180.bytes = 8 := rfl
@[simp] theorem Tryz.zero180 : Tryz.t180.zero = some (.nilFunc) := rfl
attribute [simp] Tryz.underlying180
@[simp] theorem Tryz.info181 : Tryz.prog.info? 181 = some Tryz.t181 := Tryz.type181
@[simp] theorem Tryz.size181 : Tryz.t181.size = 1 := rfl
@[simp] theorem Tryz.bytes181 : Tryz.t181.bytes = 8 := rfl
@[simp] theorem Tryz.zero181 : Tryz.t181.zero = some (.nilFunc) := rfl
attribute [simp] Tryz.underlying181
@[simp] theorem Tryz.info182 : Tryz.prog.info? 182 = some Tryz.t182 := Tryz.type182
@[simp] theorem Tryz.size182 : Tryz.t182.size = 1 := rfl
@[simp] theorem Tryz.bytes182 : Tryz.t182.bytes = 8 := rfl
@[simp] theorem Tryz.zero182 : Tryz.t182.zero = some (.nilFunc) := rfl
attribute [simp] Tryz.underlying182
@[simp] theorem Tryz.info183 : Tryz.prog.info? 183 = some Tryz.t183 := Tryz.type183
@[simp] theorem Tryz.size183 : Tryz.t183.size = 1 := rfl
@[simp] theorem Tryz.bytes183 : Tryz.t183.bytes = 8 := rfl
@[simp] theorem Tryz.zero183 : Tryz.t183.zero = some (.nilFunc) := rfl
attribute [simp] Tryz.underlying183
@[simp] theorem Tryz.info184 : Tryz.prog.info? 184 = some Tryz.t184 := Tryz.type184
@[simp] theorem Tryz.size184 : Tryz.t184.size = 1 := rfl
@[simp] theorem Tryz.bytes184 : Tryz.t184.bytes = 0 := rfl
@[simp] theorem Tryz.zero184 : Tryz.t184.zero = some (.tuple #[.int .i64 0, .int .i64 0]) := rfl
attribute [simp] Tryz.underlying184
@[simp] theorem Tryz.info185 : Tryz.prog.info? 185 = some Tryz.t185 := Tryz.type185
@[simp] theorem Tryz.size185 : Tryz.t185.size = 1 := rfl
@[simp] theorem Tryz.bytes185 : Tryz.t185.bytes = 8 := rfl
@[simp] theorem Tryz.zero185 : Tryz.t185.zero = some (.nilFunc) := rfl
attribute [simp] Tryz.underlying185
@[simp] theorem Tryz.info186 : Tryz.prog.info? 186 = some Tryz.t186 := Tryz.type186
@[simp] theorem Tryz.size186 : Tryz.t186.size = 1 := rfl
@[simp] theorem Tryz.bytes186 : Tryz.t186.bytes = 8 := rfl
@[simp] theorem Tryz.zero186 : Tryz.t186.zero = some (.nilFunc) := rfl
attribute [simp] Tryz.underlying186
@[simp] theorem Tryz.info187 : Tryz.prog.info? 187 = some Tryz.t187 := Tryz.type187
@[simp] theorem Tryz.size187 : Tryz.t187.size = 1 := rfl
@[simp] theorem Tryz.bytes187 : Tryz.t187.bytes = 8 := rfl
@[simp] theorem Tryz.zero187 : Tryz.t187.zero = some (.nilFunc) := rfl
attribute [simp] Tryz.underlying187
@[simp] theorem Tryz.info188 : Tryz.prog.info? 188 = some Tryz.t188 := Tryz.type188
@[simp] theorem Tryz.size188 : Tryz.t188.size = 1 := rfl
@[simp] theorem Tryz.bytes188 : Tryz.t188.bytes = 8 := rfl
@[simp] theorem Tryz.zero188 : Tryz.t188.zero = some (.nilFunc) := rfl
attribute [simp] Tryz.underlying188
@[simp] theorem Tryz.info189 : Tryz.prog.info? 189 = some Tryz.t189 := Tryz.type189
@[simp] theorem Tryz.size189 : Tryz.t189.size = 1 := rfl
@[simp] theorem Tryz.bytes189 : Tryz.t189.bytes = 8 := rfl
@[simp] theorem Tryz.zero189 : Tryz.t189.zero = some (.nilFunc) := rfl
attribute [simp] Tryz.underlying189
@[simp] theorem Tryz.info190 : Tryz.prog.info? 190 = some Tryz.t190 := Tryz.type190
@[simp] theorem Tryz.size190 : Tryz.t190.size = 1 := rfl
@[simp] theorem Tryz.bytes190 : Tryz.t190.bytes = 0 := rfl
@[simp] theorem Tryz.zero190 : Tryz.t190.zero = some (.tuple #[.int .u64 0, .int .i64 0]) := rfl
attribute [simp] Tryz.underlying190
@[simp] theorem Tryz.info191 : Tryz.prog.info? 191 = some Tryz.t191 := Tryz.type191
@[simp] theorem Tryz.size191 : Tryz.t191.size = 1 := rfl
@[simp] theorem Tryz.bytes191 : Tryz.t191.bytes = 8 := rfl
@[simp] theorem Tryz.zero191 : Tryz.t191.zero = some (.nilFunc) := rfl
attribute [simp] Tryz.underlying191
@[simp] theorem Tryz.info192 : Tryz.prog.info? 192 = some Tryz.t192 := Tryz.type192
@[simp] theorem Tryz.size192 : Tryz.t192.size = 5 := rfl
@[simp] theorem Tryz.bytes192 : Tryz.t192.bytes = 40 := rfl
@[simp] theorem Tryz.zero192 : Tryz.t192.zero = some (.agg #[.int .i64 0, .int .i64 0, .bool false, .int .u64 0, .int .i64 0]) := rfl
attribute [simp] Tryz.underlying192
@[simp] theorem Tryz.info193 : Tryz.prog.info? 193 = some Tryz.t193 := Tryz.type193
@[simp] theorem Tryz.size193 : Tryz.t193.size = 5 := rfl
@[simp] theorem Tryz.bytes193 : Tryz.t193.bytes = 40 := rfl
@[simp] theorem Tryz.zero193 : Tryz.t193.zero = some (.agg #[.int .i64 0, .int .i64 0, .bool false, .int .u64 0, .int .i64 0]) := rfl
attribute [simp] Tryz.underlying193
@[simp] theorem Tryz.info194 : Tryz.prog.info? 194 = some Tryz.t194 := Tryz.type194
@[simp] theorem Tryz.size194 : Tryz.t194.size = 1 := rfl
@[simp] theorem Tryz.bytes194 : Tryz.t194.bytes = 0 := rfl
@[simp] theorem Tryz.zero194 : Tryz.t194.zero = some (.tuple #[.agg #[.int .i64 0, .int .i64 0, .int .i64 0, .int .u64 0, .int .u64 0, .bool false], .int .i64 0]) := rfl
attribute [simp] Tryz.underlying194
@[simp] theorem Tryz.info195 : Tryz.prog.info? 195 = some Tryz.t195 := Tryz.type195
@[simp] theorem Tryz.size195 : Tryz.t195.size = 1 := rfl
@[simp] theorem Tryz.bytes195 : Tryz.t195.bytes = 8 := rfl
@[simp] theorem Tryz.zero195 : Tryz.t195.zero = some (.nilFunc) := rfl
attribute [simp] Tryz.underlying195
@[simp] theorem Tryz.info196 : Tryz.prog.info? 196 = some Tryz.t196 := Tryz.type196
@[simp] theorem Tryz.size196 : Tryz.t196.size = 1 := rfl
@[simp] theorem Tryz.bytes196 : Tryz.t196.bytes = 8 := rfl
@[simp] theorem Tryz.zero196 : Tryz.t196.zero = some (.nilFunc) := rfl
attribute [simp] Tryz.underlying196
@[simp] theorem Tryz.info197 : Tryz.prog.info? 197 = some Tryz.t197 := Tryz.type197
@[simp] theorem Tryz.size197 : Tryz.t197.size = 1 := rfl
@[simp] theorem Tryz.bytes197 : Tryz.t197.bytes = 24 := rfl
@[simp] theorem Tryz.zero197 : Tryz.t197.zero = some (.slice none 0 0) := rfl
attribute [simp] Tryz.underlying197
@[simp] theorem Tryz.info198 : Tryz.prog.info? 198 = some Tryz.t198 := Tryz.type198
@[simp] theorem Tryz.size198 : Tryz.t198.size = 1 := rfl
@[simp] theorem Tryz.bytes198 : Tryz.t198.bytes = 24 := rfl
@[simp] theorem Tryz.zero198 : Tryz.t198.zero = some (.agg #[.slice none 0 0]) := rfl
attribute [simp] Tryz.underlying198
@[simp] theorem Tryz.info199 : Tryz.prog.info? 199 = some Tryz.t199 := Tryz.type199
@[simp] theorem Tryz.size199 : Tryz.t199.size = 1 := rfl
@[simp] theorem Tryz.bytes199 : Tryz.t199.bytes = 24 := rfl
@[simp] theorem Tryz.zero199 : Tryz.t199.zero = some (.agg #[.slice none 0 0]) := rfl
attribute [simp] Tryz.underlying199
@[simp] theorem Tryz.info200 : Tryz.prog.info? 200 = some Tryz.t200 := Tryz.type200
@[simp] theorem Tryz.size200 : Tryz.t200.size = 2 := rfl
@[simp] theorem Tryz.bytes200 : Tryz.t200.bytes = 16 := rfl
@[simp] theorem Tryz.zero200 : Tryz.t200.zero = some (.agg #[.int .i64 0, .int .i64 0]) := rfl
attribute [simp] Tryz.underlying200
@[simp] theorem Tryz.info201 : Tryz.prog.info? 201 = some Tryz.t201 := Tryz.type201
@[simp] theorem Tryz.size201 : Tryz.t201.size = 2 := rfl
@[simp] theorem Tryz.bytes201 : Tryz.t201.bytes = 16 := rfl
@[simp] theorem Tryz.zero201 : Tryz.t201.zero = some (.agg #[.int .i64 0, .int .i64 0]) := rfl
attribute [simp] Tryz.underlying201
@[simp] theorem Tryz.info202 : Tryz.prog.info? 202 = some Tryz.t202 := Tryz.type202
@[simp] theorem Tryz.size202 : Tryz.t202.size = 1 := rfl
@[simp] theorem Tryz.bytes202 : Tryz.t202.bytes = 8 := rfl
@[simp] theorem Tryz.zero202 : Tryz.t202.zero = some (.nilFunc) := rfl
attribute [simp] Tryz.underlying202
@[simp] theorem Tryz.info203 : Tryz.prog.info? 203 = some Tryz.t203 := Tryz.type203
@[simp] theorem Tryz.size203 : Tryz.t203.size = 1 := rfl
@[simp] theorem Tryz.bytes203 : Tryz.t203.bytes = 8 := rfl
@[simp] theorem Tryz.zero203 : Tryz.t203.zero = some (.nilFunc) := rfl
attribute [simp] Tryz.underlying203
@[simp] theorem Tryz.info204 : Tryz.prog.info? 204 = some Tryz.t204 := Tryz.type204
@[simp] theorem Tryz.size204 : Tryz.t204.size = 1 := rfl
@[simp] theorem Tryz.bytes204 : Tryz.t204.bytes = 8 := rfl
@[simp] theorem Tryz.zero204 : Tryz.t204.zero = some (.nilFunc) := rfl
attribute [simp] Tryz.underlying204
@[simp] theorem Tryz.info205 : Tryz.prog.info? 205 = some Tryz.t205 := Tryz.type205
@[simp] theorem Tryz.size205 : Tryz.t205.size = 1 := rfl
@[simp] theorem Tryz.bytes205 : Tryz.t205.bytes = 8 := rfl
@[simp] theorem Tryz.zero205 : Tryz.t205.zero = some (.nilFunc) := rfl
attribute [simp] Tryz.underlying205
@[simp] theorem Tryz.info206 : Tryz.prog.info? 206 = some Tryz.t206 := Tryz.type206
@[simp] theorem Tryz.size206 : Tryz.t206.size = 1 := rfl
@[simp] theorem Tryz.bytes206 : Tryz.t206.bytes = 8 := rfl
@[simp] theorem Tryz.zero206 : Tryz.t206.zero = some (.nilFunc) := rfl
attribute [simp] Tryz.underlying206
@[simp] theorem Tryz.info207 : Tryz.prog.info? 207 = some Tryz.t207 := Tryz.type207
@[simp] theorem Tryz.size207 : Tryz.t207.size = 1 := rfl
@[simp] theorem Tryz.bytes207 : Tryz.t207.bytes = 8 := rfl
@[simp] theorem Tryz.zero207 : Tryz.t207.zero = some (.nilFunc) := rfl
attribute [simp] Tryz.underlying207
@[simp] theorem Tryz.info208 : Tryz.prog.info? 208 = some Tryz.t208 := Tryz.type208
@[simp] theorem Tryz.size208 : Tryz.t208.size = 1 := rfl
@[simp] theorem Tryz.bytes208 : Tryz.t208.bytes = 0 := rfl
@[simp] theorem Tryz.zero208 : Tryz.t208.zero = some (.tuple #[.int .u64 0, .bool false]) := rfl
attribute [simp] Tryz.underlying208
@[simp] theorem Tryz.info209 : Tryz.prog.info? 209 = some Tryz.t209 := Tryz.type209
@[simp] theorem Tryz.size209 : Tryz.t209.size = 1 := rfl
@[simp] theorem Tryz.bytes209 : Tryz.t209.bytes = 8 := rfl
@[simp] theorem Tryz.zero209 : Tryz.t209.zero = some (.nilFunc) := rfl
attribute [simp] Tryz.underlying209
@[simp] theorem Tryz.info210 : Tryz.prog.info? 210 = some Tryz.t210 := Tryz.type210
@[simp] theorem Tryz.size210 : Tryz.t210.size = 1 := rfl
@[simp] theorem Tryz.bytes210 : Tryz.t210.bytes = 8 := rfl
@[simp] theorem Tryz.zero210 : Tryz.t210.zero = some (.nilFunc) := rfl
attribute [simp] Tryz.underlying210
@[simp] theorem Tryz.info211 : Tryz.prog.info? 211 = some Tryz.t211 := Tryz.type211
@[simp] theorem Tryz.size211 : Tryz.t211.size = 1 := rfl
@[simp] theorem Tryz.bytes211 : Tryz.t211.bytes = 8 := rfl
@[simp] theorem Tryz.zero211 : Tryz.t211.zero = some (.nilFunc) := rfl
attribute [simp] Tryz.underlying211
@[simp] theorem Tryz.info212 : Tryz.prog.info? 212 = some Tryz.t212 := Tryz.type212
@[simp] theorem Tryz.size212 : Tryz.t212.size = 1 := rfl
@[simp] theorem Tryz.bytes212 : Tryz.t212.bytes = 8 := rfl
@[simp] theorem Tryz.zero212 : Tryz.t212.zero = some (.nilFunc) := rfl
attribute [simp] Tryz.underlying212
@[simp] theorem Tryz.info213 : Tryz.prog.info? 213 = some Tryz.t213 := Tryz.type213
@[simp] theorem Tryz.size213 : Tryz.t213.size = 1 := rfl
@[simp] theorem Tryz.bytes213 : Tryz.t213.bytes = 8 := rfl
@[simp] theorem Tryz.zero213 : Tryz.t213.zero = some (.nilFunc) := rfl
attribute [simp] Tryz.underlying213
@[simp] theorem Tryz.info214 : Tryz.prog.info? 214 = some Tryz.t214 := Tryz.type214
@[simp] theorem Tryz.size214 : Tryz.t214.size = 1 := rfl
@[simp] theorem Tryz.bytes214 : Tryz.t214.bytes = 8 := rfl
@[simp] theorem Tryz.zero214 : Tryz.t214.zero = some (.nilFunc) := rfl
attribute [simp] Tryz.underlying214
@[simp] theorem Tryz.info215 : Tryz.prog.info? 215 = some Tryz.t215 := Tryz.type215
@[simp] theorem Tryz.size215 : Tryz.t215.size = 1 := rfl
@[simp] theorem Tryz.bytes215 : Tryz.t215.bytes = 8 := rfl
@[simp] theorem Tryz.zero215 : Tryz.t215.zero = some (.nilFunc) := rfl
attribute [simp] Tryz.underlying215
@[simp] theorem Tryz.info216 : Tryz.prog.info? 216 = some Tryz.t216 := Tryz.type216
@[simp] theorem Tryz.size216 : Tryz.t216.size = 1 := rfl
@[simp] theorem Tryz.bytes216 : Tryz.t216.bytes = 8 := rfl
@[simp] theorem Tryz.zero216 : Tryz.t216.zero = some (.pointer none) := rfl
attribute [simp] Tryz.underlying216
@[simp] theorem Tryz.info217 : Tryz.prog.info? 217 = some Tryz.t217 := Tryz.type217
@[simp] theorem Tryz.size217 : Tryz.t217.size = 1 := rfl
@[simp] theorem Tryz.bytes217 : Tryz.t217.bytes = 8 := rfl
@[simp] theorem Tryz.zero217 : Tryz.t217.zero = some (.nilFunc) := rfl
attribute [simp] Tryz.underlying217
@[simp] theorem Tryz.info218 : Tryz.prog.info? 218 = some Tryz.t218 := Tryz.type218
@[simp] theorem Tryz.size218 : Tryz.t218.size = 3 := rfl
@[simp] theorem Tryz.bytes218 : Tryz.t218.bytes = 24 := rfl
@[simp] theorem Tryz.zero218 : Tryz.t218.zero = some (.agg #[.int .i64 0, .int .i64 0, .int .i64 0]) := rfl
attribute [simp] Tryz.underlying218
@[simp] theorem Tryz.info219 : Tryz.prog.info? 219 = some Tryz.t219 := Tryz.type219
@[simp] theorem Tryz.size219 : Tryz.t219.size = 1 := rfl
@[simp] theorem Tryz.bytes219 : Tryz.t219.bytes = 8 := rfl
@[simp] theorem Tryz.zero219 : Tryz.t219.zero = some (.nilFunc) := rfl
attribute [simp] Tryz.underlying219
@[simp] theorem Tryz.info220 : Tryz.prog.info? 220 = some Tryz.t220 := Tryz.type220
@[simp] theorem Tryz.size220 : Tryz.t220.size = 2 := rfl
@[simp] theorem Tryz.bytes220 : Tryz.t220.bytes = 32 := rfl
@[simp] theorem Tryz.zero220 : Tryz.t220.zero = some (.agg #[.string ⟨#[]⟩, .string ⟨#[]⟩]) := rfl
attribute [simp] Tryz.underlying220
@[simp] theorem Tryz.info221 : Tryz.prog.info? 221 = some Tryz.t221 := Tryz.type221
@[simp] theorem Tryz.size221 : Tryz.t221.size = 2 := rfl
@[simp] theorem Tryz.bytes221 : Tryz.t221.bytes = 32 := rfl
@[simp] theorem Tryz.zero221 : Tryz.t221.zero = some (.agg #[.string ⟨#[]⟩, .string ⟨#[]⟩]) := rfl
attribute [simp] Tryz.underlying221
@[simp] theorem Tryz.info222 : Tryz.prog.info? 222 = some Tryz.t222 := Tryz.type222
@[simp] theorem Tryz.size222 : Tryz.t222.size = 36 := rfl
@[simp] theorem Tryz.bytes222 : Tryz.t222.bytes = 576 := rfl
@[simp] theorem Tryz.zero222 : Tryz.t222.zero = some (.agg #[.string ⟨#[]⟩, .string ⟨#[]⟩, .string ⟨#[]⟩, .string ⟨#[]⟩, .string ⟨#[]⟩, .string ⟨#[]⟩, .string ⟨#[]⟩, .string ⟨#[]⟩, .string ⟨#[]⟩, .string ⟨#[]⟩, .string ⟨#[]⟩, .string ⟨#[]⟩, .string ⟨#[]⟩, .string ⟨#[]⟩, .string ⟨#[]⟩, .string ⟨#[]⟩, .string ⟨#[]⟩, .string ⟨#[]⟩, .string ⟨#[]⟩, .string ⟨#[]⟩, .string ⟨#[]⟩, .string ⟨#[]⟩, .string ⟨#[]⟩, .string ⟨#[]⟩, .string ⟨#[]⟩, .string ⟨#[]⟩, .string ⟨#[]⟩, .string ⟨#[]⟩, .string ⟨#[]⟩, .string ⟨#[]⟩, .string ⟨#[]⟩, .string ⟨#[]⟩, .string ⟨#[]⟩, .string ⟨#[]⟩, .string ⟨#[]⟩, .string ⟨#[]⟩]) := rfl
attribute [simp] Tryz.underlying222
@[simp] theorem Tryz.info223 : Tryz.prog.info? 223 = some Tryz.t223 := Tryz.type223
@[simp] theorem Tryz.size223 : Tryz.t223.size = 1 := rfl
@[simp] theorem Tryz.bytes223 : Tryz.t223.bytes = 8 := rfl
@[simp] theorem Tryz.zero223 : Tryz.t223.zero = some (.nilFunc) := rfl
attribute [simp] Tryz.underlying223
@[simp] theorem Tryz.info224 : Tryz.prog.info? 224 = some Tryz.t224 := Tryz.type224
@[simp] theorem Tryz.size224 : Tryz.t224.size = 1 := rfl
@[simp] theorem Tryz.bytes224 : Tryz.t224.bytes = 8 := rfl
@[simp] theorem Tryz.zero224 : Tryz.t224.zero = some (.nilFunc) := rfl
attribute [simp] Tryz.underlying224
@[simp] theorem Tryz.info225 : Tryz.prog.info? 225 = some Tryz.t225 := Tryz.type225
@[simp] theorem Tryz.size225 : Tryz.t225.size = 1 := rfl
@[simp] theorem Tryz.bytes225 : Tryz.t225.bytes = 24 := rfl
@[simp] theorem Tryz.zero225 : Tryz.t225.zero = some (.slice none 0 0) := rfl
attribute [simp] Tryz.underlying225
@[simp] theorem Tryz.info226 : Tryz.prog.info? 226 = some Tryz.t226 := Tryz.type226
@[simp] theorem Tryz.size226 : Tryz.t226.size = 1 := rfl
@[simp] theorem Tryz.bytes226 : Tryz.t226.bytes = 8 := rfl
@[simp] theorem Tryz.zero226 : Tryz.t226.zero = some (.nilFunc) := rfl
attribute [simp] Tryz.underlying226
@[simp] theorem Tryz.info227 : Tryz.prog.info? 227 = some Tryz.t227 := Tryz.type227
@[simp] theorem Tryz.size227 : Tryz.t227.size = 1 := rfl
@[simp] theorem Tryz.bytes227 : Tryz.t227.bytes = 8 := rfl
@[simp] theorem Tryz.zero227 : Tryz.t227.zero = some (.nilFunc) := rfl
attribute [simp] Tryz.underlying227
@[simp] theorem Tryz.info228 : Tryz.prog.info? 228 = some Tryz.t228 := Tryz.type228
@[simp] theorem Tryz.size228 : Tryz.t228.size = 1 := rfl
@[simp] theorem Tryz.bytes228 : Tryz.t228.bytes = 8 := rfl
@[simp] theorem Tryz.zero228 : Tryz.t228.zero = some (.nilFunc) := rfl
attribute [simp] Tryz.underlying228
@[simp] theorem Tryz.info229 : Tryz.prog.info? 229 = some Tryz.t229 := Tryz.type229
@[simp] theorem Tryz.size229 : Tryz.t229.size = 4 := rfl
@[simp] theorem Tryz.bytes229 : Tryz.t229.bytes = 32 := rfl
@[simp] theorem Tryz.zero229 : Tryz.t229.zero = some (.agg #[.int .i64 0, .int .i64 0, .int .i64 0, .int .u64 0]) := rfl
attribute [simp] Tryz.underlying229
@[simp] theorem Tryz.info230 : Tryz.prog.info? 230 = some Tryz.t230 := Tryz.type230
@[simp] theorem Tryz.size230 : Tryz.t230.size = 4 := rfl
@[simp] theorem Tryz.bytes230 : Tryz.t230.bytes = 32 := rfl
@[simp] theorem Tryz.zero230 : Tryz.t230.zero = some (.agg #[.int .i64 0, .int .i64 0, .int .i64 0, .int .u64 0]) := rfl
attribute [simp] Tryz.underlying230
@[simp] theorem Tryz.info231 : Tryz.prog.info? 231 = some Tryz.t231 := Tryz.type231
@[simp] theorem Tryz.size231 : Tryz.t231.size = 1 := rfl
@[simp] theorem Tryz.bytes231 : Tryz.t231.bytes = 8 := rfl
@[simp] theorem Tryz.zero231 : Tryz.t231.zero = some (.nilFunc) := rfl
attribute [simp] Tryz.underlying231
@[simp] theorem Tryz.info232 : Tryz.prog.info? 232 = some Tryz.t232 := Tryz.type232
@[simp] theorem Tryz.size232 : Tryz.t232.size = 1 := rfl
@[simp] theorem Tryz.bytes232 : Tryz.t232.bytes = 8 := rfl
@[simp] theorem Tryz.zero232 : Tryz.t232.zero = some (.nilFunc) := rfl
attribute [simp] Tryz.underlying232
@[simp] theorem Tryz.info233 : Tryz.prog.info? 233 = some Tryz.t233 := Tryz.type233
@[simp] theorem Tryz.size233 : Tryz.t233.size = 1 := rfl
@[simp] theorem Tryz.bytes233 : Tryz.t233.bytes = 8 := rfl
@[simp] theorem Tryz.zero233 : Tryz.t233.zero = some (.nilFunc) := rfl
attribute [simp] Tryz.underlying233
@[simp] theorem Tryz.info234 : Tryz.prog.info? 234 = some Tryz.t234 := Tryz.type234
@[simp] theorem Tryz.size234 : Tryz.t234.size = 1 := rfl
@[simp] theorem Tryz.bytes234 : Tryz.t234.bytes = 8 := rfl
@[simp] theorem Tryz.zero234 : Tryz.t234.zero = some (.nilFunc) := rfl
attribute [simp] Tryz.underlying234
@[simp] theorem Tryz.info235 : Tryz.prog.info? 235 = some Tryz.t235 := Tryz.type235
@[simp] theorem Tryz.size235 : Tryz.t235.size = 1 := rfl
@[simp] theorem Tryz.bytes235 : Tryz.t235.bytes = 8 := rfl
@[simp] theorem Tryz.zero235 : Tryz.t235.zero = some (.nilFunc) := rfl
attribute [simp] Tryz.underlying235
@[simp] theorem Tryz.info236 : Tryz.prog.info? 236 = some Tryz.t236 := Tryz.type236
@[simp] theorem Tryz.size236 : Tryz.t236.size = 1 := rfl
@[simp] theorem Tryz.bytes236 : Tryz.t236.bytes = 8 := rfl
@[simp] theorem Tryz.zero236 : Tryz.t236.zero = some (.nilFunc) := rfl
attribute [simp] Tryz.underlying236
@[simp] theorem Tryz.info237 : Tryz.prog.info? 237 = some Tryz.t237 := Tryz.type237
@[simp] theorem Tryz.size237 : Tryz.t237.size = 1 := rfl
@[simp] theorem Tryz.bytes237 : Tryz.t237.bytes = 8 := rfl
@[simp] theorem Tryz.zero237 : Tryz.t237.zero = some (.nilFunc) := rfl
attribute [simp] Tryz.underlying237
@[simp] theorem Tryz.info238 : Tryz.prog.info? 238 = some Tryz.t238 := Tryz.type238
@[simp] theorem Tryz.size238 : Tryz.t238.size = 1 := rfl
@[simp] theorem Tryz.bytes238 : Tryz.t238.bytes = 8 := rfl
@[simp] theorem Tryz.zero238 : Tryz.t238.zero = some (.nilFunc) := rfl
attribute [simp] Tryz.underlying238
@[simp] theorem Tryz.info239 : Tryz.prog.info? 239 = some Tryz.t239 := Tryz.type239
@[simp] theorem Tryz.size239 : Tryz.t239.size = 1 := rfl
@[simp] theorem Tryz.bytes239 : Tryz.t239.bytes = 8 := rfl
@[simp] theorem Tryz.zero239 : Tryz.t239.zero = some (.nilFunc) := rfl
attribute [simp] Tryz.underlying239
@[simp] theorem Tryz.info240 : Tryz.prog.info? 240 = some Tryz.t240 := Tryz.type240
@[simp] theorem Tryz.size240 : Tryz.t240.size = 1 := rfl
@[simp] theorem Tryz.bytes240 : Tryz.t240.bytes = 8 := rfl
@[simp] theorem Tryz.zero240 : Tryz.t240.zero = some (.nilFunc) := rfl
attribute [simp] Tryz.underlying240
@[simp] theorem Tryz.info241 : Tryz.prog.info? 241 = some Tryz.t241 := Tryz.type241
@[simp] theorem Tryz.size241 : Tryz.t241.size = 1 := rfl
@[simp] theorem Tryz.bytes241 : Tryz.t241.bytes = 8 := rfl
@[simp] theorem Tryz.zero241 : Tryz.t241.zero = some (.nilFunc) := rfl
attribute [simp] Tryz.underlying241
@[simp] theorem Tryz.info242 : Tryz.prog.info? 242 = some Tryz.t242 := Tryz.type242
@[simp] theorem Tryz.size242 : Tryz.t242.size = 3 := rfl
@[simp] theorem Tryz.bytes242 : Tryz.t242.bytes = 24 := rfl
@[simp] theorem Tryz.zero242 : Tryz.t242.zero = some (.agg #[.bool false, .int .u64 0, .bool false]) := rfl
attribute [simp] Tryz.underlying242
@[simp] theorem Tryz.info243 : Tryz.prog.info? 243 = some Tryz.t243 := Tryz.type243
@[simp] theorem Tryz.size243 : Tryz.t243.size = 3 := rfl
@[simp] theorem Tryz.bytes243 : Tryz.t243.bytes = 24 := rfl
@[simp] theorem Tryz.zero243 : Tryz.t243.zero = some (.agg #[.bool false, .int .u64 0, .bool false]) := rfl
attribute [simp] Tryz.underlying243
@[simp] theorem Tryz.info244 : Tryz.prog.info? 244 = some Tryz.t244 := Tryz.type244
@[simp] theorem Tryz.size244 : Tryz.t244.size = 4 := rfl
@[simp] theorem Tryz.bytes244 : Tryz.t244.bytes = 80 := rfl
@[simp] theorem Tryz.zero244 : Tryz.t244.zero = some (.agg #[.int .i64 0, .slice none 0 0, .slice none 0 0, .slice none 0 0]) := rfl
attribute [simp] Tryz.underlying244
@[simp] theorem Tryz.info245 : Tryz.prog.info? 245 = some Tryz.t245 := Tryz.type245
@[simp] theorem Tryz.size245 : Tryz.t245.size = 4 := rfl
@[simp] theorem Tryz.bytes245 : Tryz.t245.bytes = 80 := rfl
@[simp] theorem Tryz.zero245 : Tryz.t245.zero = some (.agg #[.int .i64 0, .slice none 0 0, .slice none 0 0, .slice none 0 0]) := rfl
attribute [simp] Tryz.underlying245
@[simp] theorem Tryz.info246 : Tryz.prog.info? 246 = some Tryz.t246 := Tryz.type246
@[simp] theorem Tryz.size246 : Tryz.t246.size = 1 := rfl
@[simp] theorem Tryz.bytes246 : Tryz.t246.bytes = 8 := rfl
@[simp] theorem Tryz.zero246 : Tryz.t246.zero = some (.nilFunc) := rfl
attribute [simp] Tryz.underlying246
@[simp] theorem Tryz.info247 : Tryz.prog.info? 247 = some Tryz.t247 := Tryz.type247
@[simp] theorem Tryz.size247 : Tryz.t247.size = 1 := rfl
@[simp] theorem Tryz.bytes247 : Tryz.t247.bytes = 8 := rfl
@[simp] theorem Tryz.zero247 : Tryz.t247.zero = some (.nilFunc) := rfl
attribute [simp] Tryz.underlying247
@[simp] theorem Tryz.info248 : Tryz.prog.info? 248 = some Tryz.t248 := Tryz.type248
@[simp] theorem Tryz.size248 : Tryz.t248.size = 1 := rfl
@[simp] theorem Tryz.bytes248 : Tryz.t248.bytes = 8 := rfl
@[simp] theorem Tryz.zero248 : Tryz.t248.zero = some (.nilFunc) := rfl
attribute [simp] Tryz.underlying248
@[simp] theorem Tryz.info249 : Tryz.prog.info? 249 = some Tryz.t249 := Tryz.type249
@[simp] theorem Tryz.size249 : Tryz.t249.size = 1 := rfl
@[simp] theorem Tryz.bytes249 : Tryz.t249.bytes = 8 := rfl
@[simp] theorem Tryz.zero249 : Tryz.t249.zero = some (.nilFunc) := rfl
attribute [simp] Tryz.underlying249
@[simp] theorem Tryz.info250 : Tryz.prog.info? 250 = some Tryz.t250 := Tryz.type250
@[simp] theorem Tryz.size250 : Tryz.t250.size = 1 := rfl
@[simp] theorem Tryz.bytes250 : Tryz.t250.bytes = 8 := rfl
@[simp] theorem Tryz.zero250 : Tryz.t250.zero = some (.nilFunc) := rfl
attribute [simp] Tryz.underlying250
@[simp] theorem Tryz.info251 : Tryz.prog.info? 251 = some Tryz.t251 := Tryz.type251
@[simp] theorem Tryz.size251 : Tryz.t251.size = 1 := rfl
@[simp] theorem Tryz.bytes251 : Tryz.t251.bytes = 8 := rfl
@[simp] theorem Tryz.zero251 : Tryz.t251.zero = some (.nilFunc) := rfl
attribute [simp] Tryz.underlying251
@[simp] theorem Tryz.info252 : Tryz.prog.info? 252 = some Tryz.t252 := Tryz.type252
@[simp] theorem Tryz.size252 : Tryz.t252.size = 1 := rfl
@[simp] theorem Tryz.bytes252 : Tryz.t252.bytes = 8 := rfl
@[simp] theorem Tryz.zero252 : Tryz.t252.zero = some (.nilFunc) := rfl
attribute [simp] Tryz.underlying252
@[simp] theorem Tryz.info253 : Tryz.prog.info? 253 = some Tryz.t253 := Tryz.type253
@[simp] theorem Tryz.size253 : Tryz.t253.size = 1 := rfl
@[simp] theorem Tryz.bytes253 : Tryz.t253.bytes = 8 := rfl
@[simp] theorem Tryz.zero253 : Tryz.t253.zero = some (.nilFunc) := rfl
attribute [simp] Tryz.underlying253
@[simp] theorem Tryz.info254 : Tryz.prog.info? 254 = some Tryz.t254 := Tryz.type254
@[simp] theorem Tryz.size254 : Tryz.t254.size = 1 := rfl
@[simp] theorem Tryz.bytes254 : Tryz.t254.bytes = 8 := rfl
@[simp] theorem Tryz.zero254 : Tryz.t254.zero = some (.nilFunc) := rfl
attribute [simp] Tryz.underlying254
@[simp] theorem Tryz.info255 : Tryz.prog.info? 255 = some Tryz.t255 := Tryz.type255
@[simp] theorem Tryz.size255 : Tryz.t255.size = 1 := rfl
@[simp] theorem Tryz.bytes255 : Tryz.t255.bytes = 8 := rfl
@[simp] theorem Tryz.zero255 : Tryz.t255.zero = some (.nilFunc) := rfl
attribute [simp] Tryz.underlying255
@[simp] theorem Tryz.info256 : Tryz.prog.info? 256 = some Tryz.t256 := Tryz.type256
@[simp] theorem Tryz.size256 : Tryz.t256.size = 1 := rfl
@[simp] theorem Tryz.bytes256 : Tryz.t256.bytes = 8 := rfl
@[simp] theorem Tryz.zero256 : Tryz.t256.zero = some (.float .f64 0) := rfl
attribute [simp] Tryz.underlying256
@[simp] theorem Tryz.info257 : Tryz.prog.info? 257 = some Tryz.t257 := Tryz.type257
@[simp] theorem Tryz.size257 : Tryz.t257.size = 1 := rfl
@[simp] theorem Tryz.bytes257 : Tryz.t257.bytes = 8 := rfl
@[simp] theorem Tryz.zero257 : Tryz.t257.zero = some (.nilFunc) := rfl
attribute [simp] Tryz.underlying257
@[simp] theorem Tryz.info258 : Tryz.prog.info? 258 = some Tryz.t258 := Tryz.type258
@[simp] theorem Tryz.size258 : Tryz.t258.size = 1 := rfl
@[simp] theorem Tryz.bytes258 : Tryz.t258.bytes = 8 := rfl
@[simp] theorem Tryz.zero258 : Tryz.t258.zero = some (.nilFunc) := rfl
attribute [simp] Tryz.underlying258
@[simp] theorem Tryz.info259 : Tryz.prog.info? 259 = some Tryz.t259 := Tryz.type259
@[simp] theorem Tryz.size259 : Tryz.t259.size = 1 := rfl
@[simp] theorem Tryz.bytes259 : Tryz.t259.bytes = 8 := rfl
@[simp] theorem Tryz.zero259 : Tryz.t259.zero = some (.nilFunc) := rfl
attribute [simp] Tryz.underlying259
@[simp] theorem Tryz.info260 : Tryz.prog.info? 260 = some Tryz.t260 := Tryz.type260
@[simp] theorem Tryz.size260 : Tryz.t260.size = 1 := rfl
@[simp] theorem Tryz.bytes260 : Tryz.t260.bytes = 8 := rfl
@[simp] theorem Tryz.zero260 : Tryz.t260.zero = some (.nilFunc) := rfl
attribute [simp] Tryz.underlying260
@[simp] theorem Tryz.info261 : Tryz.prog.info? 261 = some Tryz.t261 := Tryz.type261
@[simp] theorem Tryz.size261 : Tryz.t261.size = 1 := rfl
@[simp] theorem Tryz.bytes261 : Tryz.t261.bytes = 8 := rfl
@[simp] theorem Tryz.zero261 : Tryz.t261.zero = some (.nilFunc) := rfl
attribute [simp] Tryz.underlying261
@[simp] theorem Tryz.info262 : Tryz.prog.info? 262 = some Tryz.t262 := Tryz.type262
@[simp] theorem Tryz.size262 : Tryz.t262.size = 3 := rfl
@[simp] theorem Tryz.bytes262 : Tryz.t262.bytes = 24 := rfl
@[simp] theorem Tryz.zero262 : Tryz.t262.zero = some (.agg #[.int .i64 0, .int .i64 0, .int .u64 0]) := rfl
attribute [simp] Tryz.underlying262
@[simp] theorem Tryz.info263 : Tryz.prog.info? 263 = some Tryz.t263 := Tryz.type263
@[simp] theorem Tryz.size263 : Tryz.t263.size = 3 := rfl
@[simp] theorem Tryz.bytes263 : Tryz.t263.bytes = 24 := rfl
@[simp] theorem Tryz.zero263 : Tryz.t263.zero = some (.agg #[.int .i64 0, .int .i64 0, .int .u64 0]) := rfl
attribute [simp] Tryz.underlying263
@[simp] theorem Tryz.info264 : Tryz.prog.info? 264 = some Tryz.t264 := Tryz.type264
@[simp] theorem Tryz.size264 : Tryz.t264.size = 7 := rfl
@[simp] theorem Tryz.bytes264 : Tryz.t264.bytes = 56 := rfl
@[simp] theorem Tryz.zero264 : Tryz.t264.zero = some (.agg #[.int .i64 0, .int .i64 0, .int .i64 0, .int .i64 0, .int .u64 0, .int .u64 0, .bool false]) := rfl
attribute [simp] Tryz.underlying264
@[simp] theorem Tryz.info265 : Tryz.prog.info? 265 = some Tryz.t265 := Tryz.type265
@[simp] theorem Tryz.size265 : Tryz.t265.size = 7 := rfl
@[simp] theorem Tryz.bytes265 : Tryz.t265.bytes = 56 := rfl
@[simp] theorem Tryz.zero265 : Tryz.t265.zero = some (.agg #[.int .i64 0, .int .i64 0, .int .i64 0, .int .i64 0, .int .u64 0, .int .u64 0, .bool false]) := rfl
attribute [simp] Tryz.underlying265
@[simp] theorem Tryz.info266 : Tryz.prog.info? 266 = some Tryz.t266 := Tryz.type266
@[simp] theorem Tryz.size266 : Tryz.t266.size = 1 := rfl
@[simp] theorem Tryz.bytes266 : Tryz.t266.bytes = 8 := rfl
@[simp] theorem Tryz.zero266 : Tryz.t266.zero = some (.nilFunc) := rfl
attribute [simp] Tryz.underlying266
@[simp] theorem Tryz.info267 : Tryz.prog.info? 267 = some Tryz.t267 := Tryz.type267
@[simp] theorem Tryz.size267 : Tryz.t267.size = 2 := rfl
@[simp] theorem Tryz.bytes267 : Tryz.t267.bytes = 32 := rfl
@[simp] theorem Tryz.zero267 : Tryz.t267.zero = some (.agg #[.int .i64 0, .slice none 0 0]) := rfl
attribute [simp] Tryz.underlying267
@[simp] theorem Tryz.info268 : Tryz.prog.info? 268 = some Tryz.t268 := Tryz.type268
@[simp] theorem Tryz.size268 : Tryz.t268.size = 2 := rfl
@[simp] theorem Tryz.bytes268 : Tryz.t268.bytes = 32 := rfl
@[simp] theorem Tryz.zero268 : Tryz.t268.zero = some (.agg #[.int .i64 0, .slice none 0 0]) := rfl
attribute [simp] Tryz.underlying268
@[simp] theorem Tryz.info269 : Tryz.prog.info? 269 = some Tryz.t269 := Tryz.type269
@[simp] theorem Tryz.size269 : Tryz.t269.size = 5 := rfl
@[simp] theorem Tryz.bytes269 : Tryz.t269.bytes = 40 := rfl
@[simp] theorem Tryz.zero269 : Tryz.t269.zero = some (.agg #[.int .i64 0, .int .i64 0, .int .u64 0, .int .u64 0, .int .i64 0]) := rfl
attribute [simp] Tryz.underlying269
@[simp] theorem Tryz.info270 : Tryz.prog.info? 270 = some Tryz.t270 := Tryz.type270
@[simp] theorem Tryz.size270 : Tryz.t270.size = 5 := rfl
@[simp] theorem Tryz.bytes270 : Tryz.t270.bytes = 40 := rfl
@[simp] theorem Tryz.zero270 : Tryz.t270.zero = some (.agg #[.int .i64 0, .int .i64 0, .int .u64 0, .int .u64 0, .int .i64 0]) := rfl
attribute [simp] Tryz.underlying270
@[simp] theorem Tryz.info271 : Tryz.prog.info? 271 = some Tryz.t271 := Tryz.type271
@[simp] theorem Tryz.size271 : Tryz.t271.size = 5 := rfl
@[simp] theorem Tryz.bytes271 : Tryz.t271.bytes = 72 := rfl
@[simp] theorem Tryz.zero271 : Tryz.t271.zero = some (.agg #[.int .i64 0, .slice none 0 0, .slice none 0 0, .int .u64 0, .bool false]) := rfl
attribute [simp] Tryz.underlying271
@[simp] theorem Tryz.info272 : Tryz.prog.info? 272 = some Tryz.t272 := Tryz.type272
@[simp] theorem Tryz.size272 : Tryz.t272.size = 5 := rfl
@[simp] theorem Tryz.bytes272 : Tryz.t272.bytes = 72 := rfl
@[simp] theorem Tryz.zero272 : Tryz.t272.zero = some (.agg #[.int .i64 0, .slice none 0 0, .slice none 0 0, .int .u64 0, .bool false]) := rfl
attribute [simp] Tryz.underlying272
@[simp] theorem Tryz.info273 : Tryz.prog.info? 273 = some Tryz.t273 := Tryz.type273
@[simp] theorem Tryz.size273 : Tryz.t273.size = 3 := rfl
@[simp] theorem Tryz.bytes273 : Tryz.t273.bytes = 40 := rfl
@[simp] theorem Tryz.zero273 : Tryz.t273.zero = some (.agg #[.slice none 0 0, .int .i64 0, .bool false]) := rfl
attribute [simp] Tryz.underlying273
@[simp] theorem Tryz.info274 : Tryz.prog.info? 274 = some Tryz.t274 := Tryz.type274
@[simp] theorem Tryz.size274 : Tryz.t274.size = 3 := rfl
@[simp] theorem Tryz.bytes274 : Tryz.t274.bytes = 40 := rfl
@[simp] theorem Tryz.zero274 : Tryz.t274.zero = some (.agg #[.slice none 0 0, .int .i64 0, .bool false]) := rfl
attribute [simp] Tryz.underlying274
@[simp] theorem Tryz.info275 : Tryz.prog.info? 275 = some Tryz.t275 := Tryz.type275
@[simp] theorem Tryz.size275 : Tryz.t275.size = 2 := rfl
@[simp] theorem Tryz.bytes275 : Tryz.t275.bytes = 48 := rfl
@[simp] theorem Tryz.zero275 : Tryz.t275.zero = some (.agg #[.slice none 0 0, .slice none 0 0]) := rfl
attribute [simp] Tryz.underlying275
@[simp] theorem Tryz.info276 : Tryz.prog.info? 276 = some Tryz.t276 := Tryz.type276
@[simp] theorem Tryz.size276 : Tryz.t276.size = 2 := rfl
@[simp] theorem Tryz.bytes276 : Tryz.t276.bytes = 48 := rfl
@[simp] theorem Tryz.zero276 : Tryz.t276.zero = some (.agg #[.slice none 0 0, .slice none 0 0]) := rfl
attribute [simp] Tryz.underlying276
@[simp] theorem Tryz.info277 : Tryz.prog.info? 277 = some Tryz.t277 := Tryz.type277
@[simp] theorem Tryz.size277 : Tryz.t277.size = 2 := rfl
@[simp] theorem Tryz.bytes277 : Tryz.t277.bytes = 48 := rfl
@[simp] theorem Tryz.zero277 : Tryz.t277.zero = some (.agg #[.slice none 0 0, .slice none 0 0]) := rfl
attribute [simp] Tryz.underlying277
@[simp] theorem Tryz.info278 : Tryz.prog.info? 278 = some Tryz.t278 := Tryz.type278
@[simp] theorem Tryz.size278 : Tryz.t278.size = 2 := rfl
@[simp] theorem Tryz.bytes278 : Tryz.t278.bytes = 48 := rfl
@[simp] theorem Tryz.zero278 : Tryz.t278.zero = some (.agg #[.slice none 0 0, .slice none 0 0]) := rfl
attribute [simp] Tryz.underlying278
@[simp] theorem Tryz.info279 : Tryz.prog.info? 279 = some Tryz.t279 := Tryz.type279
@[simp] theorem Tryz.size279 : Tryz.t279.size = 1 := rfl
@[simp] theorem Tryz.bytes279 : Tryz.t279.bytes = 8 := rfl
@[simp] theorem Tryz.zero279 : Tryz.t279.zero = some (.nilFunc) := rfl
attribute [simp] Tryz.underlying279
@[simp] theorem Tryz.info280 : Tryz.prog.info? 280 = some Tryz.t280 := Tryz.type280
@[simp] theorem Tryz.size280 : Tryz.t280.size = 1 := rfl
@[simp] theorem Tryz.bytes280 : Tryz.t280.bytes = 8 := rfl
@[simp] theorem Tryz.zero280 : Tryz.t280.zero = some (.nilFunc) := rfl
attribute [simp] Tryz.underlying280
@[simp] theorem Tryz.info281 : Tryz.prog.info? 281 = some Tryz.t281 := Tryz.type281
@[simp] theorem Tryz.size281 : Tryz.t281.size = 1 := rfl
@[simp] theorem Tryz.bytes281 : Tryz.t281.bytes = 8 := rfl
@[simp] theorem Tryz.zero281 : Tryz.t281.zero = some (.nilFunc) := rfl
attribute [simp] Tryz.underlying281
@[simp] theorem Tryz.info282 : Tryz.prog.info? 282 = some Tryz.t282 := Tryz.type282
@[simp] theorem Tryz.size282 : Tryz.t282.size = 1 := rfl
@[simp] theorem Tryz.bytes282 : Tryz.t282.bytes = 8 := rfl
@[simp] theorem Tryz.zero282 : Tryz.t282.zero = some (.nilFunc) := rfl
attribute [simp] Tryz.underlying282
@[simp] theorem Tryz.info283 : Tryz.prog.info? 283 = some Tryz.t283 := Tryz.type283
@[simp] theorem Tryz.size283 : Tryz.t283.size = 1 := rfl
@[simp] theorem Tryz.bytes283 : Tryz.t283.bytes = 8 := rfl
@[simp] theorem Tryz.zero283 : Tryz.t283.zero = some (.nilFunc) := rfl
attribute [simp] Tryz.underlying283
@[simp] theorem Tryz.info284 : Tryz.prog.info? 284 = some Tryz.t284 := Tryz.type284
@[simp] theorem Tryz.size284 : Tryz.t284.size = 1 := rfl
@[simp] theorem Tryz.bytes284 : Tryz.t284.bytes = 8 := rfl
@[simp] theorem Tryz.zero284 : Tryz.t284.zero = some (.nilFunc) := rfl
attribute [simp] Tryz.underlying284
@[simp] theorem Tryz.info285 : Tryz.prog.info? 285 = some Tryz.t285 := Tryz.type285
@[simp] theorem Tryz.size285 : Tryz.t285.size = 1 := rfl
@[simp] theorem Tryz.bytes285 : Tryz.t285.bytes = 8 := rfl
@[simp] theorem Tryz.zero285 : Tryz.t285.zero = some (.nilFunc) := rfl
attribute [simp] Tryz.underlying285
@[simp] theorem Tryz.info286 : Tryz.prog.info? 286 = some Tryz.t286 := Tryz.type286
@[simp] theorem Tryz.size286 : Tryz.t286.size = 1 := rfl
@[simp] theorem Tryz.bytes286 : Tryz.t286.bytes = 8 := rfl
@[simp] theorem Tryz.zero286 : Tryz.t286.zero = some (.nilFunc) := rfl
attribute [simp] Tryz.underlying286
@[simp] theorem Tryz.info287 : Tryz.prog.info? 287 = some Tryz.t287 := Tryz.type287
@[simp] theorem Tryz.size287 : Tryz.t287.size = 1 := rfl
@[simp] theorem Tryz.bytes287 : Tryz.t287.bytes = 8 := rfl
@[simp] theorem Tryz.zero287 : Tryz.t287.zero = some (.nilFunc) := rfl
attribute [simp] Tryz.underlying287
@[simp] theorem Tryz.info288 : Tryz.prog.info? 288 = some Tryz.t288 := Tryz.type288
@[simp] theorem Tryz.size288 : Tryz.t288.size = 1 := rfl
@[simp] theorem Tryz.bytes288 : Tryz.t288.bytes = 8 := rfl
@[simp] theorem Tryz.zero288 : Tryz.t288.zero = some (.int .i64 0) := rfl
attribute [simp] Tryz.underlying288
@[simp] theorem Tryz.info289 : Tryz.prog.info? 289 = some Tryz.t289 := Tryz.type289
@[simp] theorem Tryz.size289 : Tryz.t289.size = 1 := rfl
@[simp] theorem Tryz.bytes289 : Tryz.t289.bytes = 0 := rfl
@[simp] theorem Tryz.zero289 : Tryz.t289.zero = some (.tuple #[.int .i64 0, .int .i64 0]) := rfl
attribute [simp] Tryz.underlying289
@[simp] theorem Tryz.info290 : Tryz.prog.info? 290 = some Tryz.t290 := Tryz.type290
@[simp] theorem Tryz.size290 : Tryz.t290.size = 1 := rfl
@[simp] theorem Tryz.bytes290 : Tryz.t290.bytes = 8 := rfl
@[simp] theorem Tryz.zero290 : Tryz.t290.zero = some (.nilFunc) := rfl
attribute [simp] Tryz.underlying290
@[simp] theorem Tryz.info291 : Tryz.prog.info? 291 = some Tryz.t291 := Tryz.type291
@[simp] theorem Tryz.size291 : Tryz.t291.size = 1 := rfl
@[simp] theorem Tryz.bytes291 : Tryz.t291.bytes = 8 := rfl
@[simp] theorem Tryz.zero291 : Tryz.t291.zero = some (.nilFunc) := rfl
attribute [simp] Tryz.underlying291
@[simp] theorem Tryz.info292 : Tryz.prog.info? 292 = some Tryz.t292 := Tryz.type292
@[simp] theorem Tryz.size292 : Tryz.t292.size = 1 := rfl
@[simp] theorem Tryz.bytes292 : Tryz.t292.bytes = 8 := rfl
@[simp] theorem Tryz.zero292 : Tryz.t292.zero = some (.nilFunc) := rfl
attribute [simp] Tryz.underlying292
@[simp] theorem Tryz.info293 : Tryz.prog.info? 293 = some Tryz.t293 := Tryz.type293
@[simp] theorem Tryz.size293 : Tryz.t293.size = 1 := rfl
@[simp] theorem Tryz.bytes293 : Tryz.t293.bytes = 8 := rfl
@[simp] theorem Tryz.zero293 : Tryz.t293.zero = some (.nilFunc) := rfl
attribute [simp] Tryz.underlying293
@[simp] theorem Tryz.info294 : Tryz.prog.info? 294 = some Tryz.t294 := Tryz.type294
@[simp] theorem Tryz.size294 : Tryz.t294.size = 1 := rfl
@[simp] theorem Tryz.bytes294 : Tryz.t294.bytes = 8 := rfl
@[simp] theorem Tryz.zero294 : Tryz.t294.zero = some (.nilFunc) := rfl
attribute [simp] Tryz.underlying294
@[simp] theorem Tryz.info295 : Tryz.prog.info? 295 = some Tryz.t295 := Tryz.type295
@[simp] theorem Tryz.size295 : Tryz.t295.size = 1 := rfl
@[simp] theorem Tryz.bytes295 : Tryz.t295.bytes = 8 := rfl
@[simp] theorem Tryz.zero295 : Tryz.t295.zero = some (.nilFunc) := rfl
attribute [simp] Tryz.underlying295
@[simp] theorem Tryz.info296 : Tryz.prog.info? 296 = some Tryz.t296 := Tryz.type296
@[simp] theorem Tryz.size296 : Tryz.t296.size = 1 := rfl
@[simp] theorem Tryz.bytes296 : Tryz.t296.bytes = 4 := rfl
@[simp] theorem Tryz.zero296 : Tryz.t296.zero = some (.int .u32 0) := rfl
attribute [simp] Tryz.underlying296
@[simp] theorem Tryz.info297 : Tryz.prog.info? 297 = some Tryz.t297 := Tryz.type297
@[simp] theorem Tryz.size297 : Tryz.t297.size = 1 := rfl
@[simp] theorem Tryz.bytes297 : Tryz.t297.bytes = 8 := rfl
@[simp] theorem Tryz.zero297 : Tryz.t297.zero = some (.nilFunc) := rfl
attribute [simp] Tryz.underlying297
@[simp] theorem Tryz.info298 : Tryz.prog.info? 298 = some Tryz.t298 := Tryz.type298
@[simp] theorem Tryz.size298 : Tryz.t298.size = 1 := rfl
@[simp] theorem Tryz.bytes298 : Tryz.t298.bytes = 8 := rfl
@[simp] theorem Tryz.zero298 : Tryz.t298.zero = some (.nilFunc) := rfl
attribute [simp] Tryz.underlying298
@[simp] theorem Tryz.info299 : Tryz.prog.info? 299 = some Tryz.t299 := Tryz.type299
@[simp] theorem Tryz.size299 : Tryz.t299.size = 1 := rfl
@[simp] theorem Tryz.bytes299 : Tryz.t299.bytes = 8 := rfl
@[simp] theorem Tryz.zero299 : Tryz.t299.zero = some (.nilFunc) := rfl
attribute [simp] Tryz.underlying299
@[simp] theorem Tryz.info300 : Tryz.prog.info? 300 = some Tryz.t300 := Tryz.type300
@[simp] theorem Tryz.size300 : Tryz.t300.size = 1 := rfl
@[simp] theorem Tryz.bytes300 : Tryz.t300.bytes = 0 := rfl
@[simp] theorem Tryz.zero300 : Tryz.t300.zero = some (.tuple #[.int .u32 0, .int .u32 0]) := rfl
attribute [simp] Tryz.underlying300
@[simp] theorem Tryz.info301 : Tryz.prog.info? 301 = some Tryz.t301 := Tryz.type301
@[simp] theorem Tryz.size301 : Tryz.t301.size = 1 := rfl
@[simp] theorem Tryz.bytes301 : Tryz.t301.bytes = 8 := rfl
@[simp] theorem Tryz.zero301 : Tryz.t301.zero = some (.nilFunc) := rfl
attribute [simp] Tryz.underlying301
@[simp] theorem Tryz.info302 : Tryz.prog.info? 302 = some Tryz.t302 := Tryz.type302
@[simp] theorem Tryz.size302 : Tryz.t302.size = 1 := rfl
@[simp] theorem Tryz.bytes302 : Tryz.t302.bytes = 8 := rfl
@[simp] theorem Tryz.zero302 : Tryz.t302.zero = some (.int .u64 0) := rfl
attribute [simp] Tryz.underlying302
@[simp] theorem Tryz.info303 : Tryz.prog.info? 303 = some Tryz.t303 := Tryz.type303
@[simp] theorem Tryz.size303 : Tryz.t303.size = 1 := rfl
@[simp] theorem Tryz.bytes303 : Tryz.t303.bytes = 8 := rfl
@[simp] theorem Tryz.zero303 : Tryz.t303.zero = some (.nilFunc) := rfl
attribute [simp] Tryz.underlying303
@[simp] theorem Tryz.info304 : Tryz.prog.info? 304 = some Tryz.t304 := Tryz.type304
@[simp] theorem Tryz.size304 : Tryz.t304.size = 1 := rfl
@[simp] theorem Tryz.bytes304 : Tryz.t304.bytes = 8 := rfl
@[simp] theorem Tryz.zero304 : Tryz.t304.zero = some (.nilFunc) := rfl
attribute [simp] Tryz.underlying304
@[simp] theorem Tryz.info305 : Tryz.prog.info? 305 = some Tryz.t305 := Tryz.type305
@[simp] theorem Tryz.size305 : Tryz.t305.size = 1 := rfl
@[simp] theorem Tryz.bytes305 : Tryz.t305.bytes = 8 := rfl
@[simp] theorem Tryz.zero305 : Tryz.t305.zero = some (.pointer none) := rfl
attribute [simp] Tryz.underlying305
@[simp] theorem Tryz.info306 : Tryz.prog.info? 306 = some Tryz.t306 := Tryz.type306
@[simp] theorem Tryz.size306 : Tryz.t306.size = 1 := rfl
@[simp] theorem Tryz.bytes306 : Tryz.t306.bytes = 8 := rfl
@[simp] theorem Tryz.zero306 : Tryz.t306.zero = some (.nilFunc) := rfl
attribute [simp] Tryz.underlying306
@[simp] theorem Tryz.info307 : Tryz.prog.info? 307 = some Tryz.t307 := Tryz.type307
@[simp] theorem Tryz.size307 : Tryz.t307.size = 1 := rfl
@[simp] theorem Tryz.bytes307 : Tryz.t307.bytes = 8 := rfl
@[simp] theorem Tryz.zero307 : Tryz.t307.zero = some (.nilFunc) := rfl
attribute [simp] Tryz.underlying307
@[simp] theorem Tryz.info308 : Tryz.prog.info? 308 = some Tryz.t308 := Tryz.type308
@[simp] theorem Tryz.size308 : Tryz.t308.size = 1 := rfl
@[simp] theorem Tryz.bytes308 : Tryz.t308.bytes = 8 := rfl
@[simp] theorem Tryz.zero308 : Tryz.t308.zero = some (.pointer none) := rfl
attribute [simp] Tryz.underlying308
@[simp] theorem Tryz.info309 : Tryz.prog.info? 309 = some Tryz.t309 := Tryz.type309
@[simp] theorem Tryz.size309 : Tryz.t309.size = 1 := rfl
@[simp] theorem Tryz.bytes309 : Tryz.t309.bytes = 8 := rfl
@[simp] theorem Tryz.zero309 : Tryz.t309.zero = some (.nilFunc) := rfl
attribute [simp] Tryz.underlying309
@[simp] theorem Tryz.info310 : Tryz.prog.info? 310 = some Tryz.t310 := Tryz.type310
@[simp] theorem Tryz.size310 : Tryz.t310.size = 1 := rfl
@[simp] theorem Tryz.bytes310 : Tryz.t310.bytes = 8 := rfl
@[simp] theorem Tryz.zero310 : Tryz.t310.zero = some (.nilFunc) := rfl
attribute [simp] Tryz.underlying310
@[simp] theorem Tryz.info311 : Tryz.prog.info? 311 = some Tryz.t311 := Tryz.type311
@[simp] theorem Tryz.size311 : Tryz.t311.size = 4 := rfl
@[simp] theorem Tryz.bytes311 : Tryz.t311.bytes = 40 := rfl
@[simp] theorem Tryz.zero311 : Tryz.t311.zero = some (.agg #[.pointer none, .pointer none, .pointer none, .string ⟨#[]⟩]) := rfl
attribute [simp] Tryz.underlying311
@[simp] theorem Tryz.info312 : Tryz.prog.info? 312 = some Tryz.t312 := Tryz.type312
@[simp] theorem Tryz.size312 : Tryz.t312.size = 4 := rfl
@[simp] theorem Tryz.bytes312 : Tryz.t312.bytes = 40 := rfl
@[simp] theorem Tryz.zero312 : Tryz.t312.zero = some (.agg #[.pointer none, .pointer none, .pointer none, .string ⟨#[]⟩]) := rfl
attribute [simp] Tryz.underlying312
@[simp] theorem Tryz.info313 : Tryz.prog.info? 313 = some Tryz.t313 := Tryz.type313
@[simp] theorem Tryz.size313 : Tryz.t313.size = 0 := rfl
@[simp] theorem Tryz.bytes313 : Tryz.t313.bytes = 0 := rfl
@[simp] theorem Tryz.zero313 : Tryz.t313.zero = some (.agg #[]) := rfl
attribute [simp] Tryz.underlying313
@[simp] theorem Tryz.info314 : Tryz.prog.info? 314 = some Tryz.t314 := Tryz.type314
@[simp] theorem Tryz.size314 : Tryz.t314.size = 0 := rfl
@[simp] theorem Tryz.bytes314 : Tryz.t314.bytes = 0 := rfl
@[simp] theorem Tryz.zero314 : Tryz.t314.zero = some (.agg #[]) := rfl
attribute [simp] Tryz.underlying314
@[simp] theorem Tryz.info315 : Tryz.prog.info? 315 = some Tryz.t315 := Tryz.type315
@[simp] theorem Tryz.size315 : Tryz.t315.size = 0 := rfl
@[simp] theorem Tryz.bytes315 : Tryz.t315.bytes = 0 := rfl
@[simp] theorem Tryz.zero315 : Tryz.t315.zero = some (.agg #[]) := rfl
attribute [simp] Tryz.underlying315
@[simp] theorem Tryz.info316 : Tryz.prog.info? 316 = some Tryz.t316 := Tryz.type316
@[simp] theorem Tryz.size316 : Tryz.t316.size = 1 := rfl
@[simp] theorem Tryz.bytes316 : Tryz.t316.bytes = 1 := rfl
@[simp] theorem Tryz.zero316 : Tryz.t316.zero = some (.int .u8 0) := rfl
attribute [simp] Tryz.underlying316
@[simp] theorem Tryz.info317 : Tryz.prog.info? 317 = some Tryz.t317 := Tryz.type317
@[simp] theorem Tryz.size317 : Tryz.t317.size = 1 := rfl
@[simp] theorem Tryz.bytes317 : Tryz.t317.bytes = 1 := rfl
@[simp] theorem Tryz.zero317 : Tryz.t317.zero = some (.int .u8 0) := rfl
attribute [simp] Tryz.underlying317
@[simp] theorem Tryz.info318 : Tryz.prog.info? 318 = some Tryz.t318 := Tryz.type318
@[simp] theorem Tryz.size318 : Tryz.t318.size = 1 := rfl
@[simp] theorem Tryz.bytes318 : Tryz.t318.bytes = 8 := rfl
@[simp] theorem Tryz.zero318 : Tryz.t318.zero = some (.nilFunc) := rfl
attribute [simp] Tryz.underlying318
@[simp] theorem Tryz.info319 : Tryz.prog.info? 319 = some Tryz.t319 := Tryz.type319
@[simp] theorem Tryz.size319 : Tryz.t319.size = 1 := rfl
@[simp] theorem Tryz.bytes319 : Tryz.t319.bytes = 8 := rfl
@[simp] theorem Tryz.zero319 : Tryz.t319.zero = some (.pointer none) := rfl
attribute [simp] Tryz.underlying319
@[simp] theorem Tryz.info320 : Tryz.prog.info? 320 = some Tryz.t320 := Tryz.type320
@[simp] theorem Tryz.size320 : Tryz.t320.size = 1 := rfl
@[simp] theorem Tryz.bytes320 : Tryz.t320.bytes = 4 := rfl
@[simp] theorem Tryz.zero320 : Tryz.t320.zero = some (.int .i32 0) := rfl
attribute [simp] Tryz.underlying320
@[simp] theorem Tryz.info321 : Tryz.prog.info? 321 = some Tryz.t321 := Tryz.type321
@[simp] theorem Tryz.size321 : Tryz.t321.size = 1 := rfl
@[simp] theorem Tryz.bytes321 : Tryz.t321.bytes = 4 := rfl
@[simp] theorem Tryz.zero321 : Tryz.t321.zero = some (.int .i32 0) := rfl
attribute [simp] Tryz.underlying321
@[simp] theorem Tryz.info322 : Tryz.prog.info? 322 = some Tryz.t322 := Tryz.type322
@[simp] theorem Tryz.size322 : Tryz.t322.size = 11 := rfl
@[simp] theorem Tryz.bytes322 : Tryz.t322.bytes = 48 := rfl
@[simp] theorem Tryz.zero322 : Tryz.t322.zero = some (.agg #[.int .u64 0, .int .u64 0, .int .u32 0, .int .u8 0, .int .u8 0, .int .u8 0, .int .u8 0, .nilFunc, .pointer none, .int .i32 0, .int .i32 0]) := rfl
attribute [simp] Tryz.underlying322
@[simp] theorem Tryz.info323 : Tryz.prog.info? 323 = some Tryz.t323 := Tryz.type323
@[simp] theorem Tryz.size323 : Tryz.t323.size = 11 := rfl
@[simp] theorem Tryz.bytes323 : Tryz.t323.bytes = 48 := rfl
@[simp] theorem Tryz.zero323 : Tryz.t323.zero = some (.agg #[.int .u64 0, .int .u64 0, .int .u32 0, .int .u8 0, .int .u8 0, .int .u8 0, .int .u8 0, .nilFunc, .pointer none, .int .i32 0, .int .i32 0]) := rfl
attribute [simp] Tryz.underlying323
@[simp] theorem Tryz.info324 : Tryz.prog.info? 324 = some Tryz.t324 := Tryz.type324
@[simp] theorem Tryz.size324 : Tryz.t324.size = 1 := rfl
@[simp] theorem Tryz.bytes324 : Tryz.t324.bytes = 8 := rfl
@[simp] theorem Tryz.zero324 : Tryz.t324.zero = some (.pointer none) := rfl
attribute [simp] Tryz.underlying324
@[simp] theorem Tryz.held63 : Tryz.prog.stoodInHeld 63 = false := by kernel_rfl
@[simp] theorem Tryz.guard63 : Tryz.prog.eqGuardType Tryz.prog.depth 63 = false := by kernel_rfl
@[simp] theorem Tryz.held75 : Tryz.prog.stoodInHeld 75 = false := by kernel_rfl
@[simp] theorem Tryz.guard75 : Tryz.prog.eqGuardType Tryz.prog.depth 75 = false := by kernel_rfl
attribute [simp] Tryz.results0
attribute [simp] Tryz.results1
attribute [simp] Tryz.results2
attribute [simp] Tryz.results3
attribute [simp] Tryz.results4
attribute [simp] Tryz.results5
attribute [simp] Tryz.results6
attribute [simp] Tryz.results7
attribute [simp] Tryz.results8
attribute [simp] Tryz.results9
attribute [simp] Tryz.results10
attribute [simp] Tryz.results11
attribute [simp] Tryz.results12
attribute [simp] Tryz.results13
attribute [simp] Tryz.results14
attribute [simp] Tryz.results15
attribute [simp] Tryz.results16
attribute [simp] Tryz.results17
attribute [simp] Tryz.results18
attribute [simp] Tryz.results19
attribute [simp] Tryz.results20
attribute [simp] Tryz.results21
attribute [simp] Tryz.results22
attribute [simp] Tryz.results23
attribute [simp] Tryz.results24
attribute [simp] Tryz.results25
attribute [simp] Tryz.results26
attribute [simp] Tryz.results27
attribute [simp] Tryz.results28
attribute [simp] Tryz.results29
attribute [simp] Tryz.results30
attribute [simp] Tryz.results31
attribute [simp] Tryz.results32
attribute [simp] Tryz.results33
attribute [simp] Tryz.results34
attribute [simp] Tryz.results35
attribute [simp] Tryz.results36
attribute [simp] Tryz.results37
attribute [simp] Tryz.results38
attribute [simp] Tryz.results39
attribute [simp] Tryz.results40
attribute [simp] Tryz.results41
attribute [simp] Tryz.results42
attribute [simp] Tryz.results43
attribute [simp] Tryz.results44
attribute [simp] Tryz.results45
attribute [simp] Tryz.results46
attribute [simp] Tryz.results47
attribute [simp] Tryz.results48
attribute [simp] Tryz.results49
attribute [simp] Tryz.results50
attribute [simp] Tryz.results51
attribute [simp] Tryz.results52
attribute [simp] Tryz.results53
attribute [simp] Tryz.results54
attribute [simp] Tryz.results55
attribute [simp] Tryz.results56
attribute [simp] Tryz.results57
attribute [simp] Tryz.results58
attribute [simp] Tryz.results59
attribute [simp] Tryz.results60
attribute [simp] Tryz.results61
attribute [simp] Tryz.results62
attribute [simp] Tryz.results63
attribute [simp] Tryz.results64
attribute [simp] Tryz.results65
attribute [simp] Tryz.results66
attribute [simp] Tryz.results67
attribute [simp] Tryz.results68
attribute [simp] Tryz.results69
attribute [simp] Tryz.results70
attribute [simp] Tryz.results71
attribute [simp] Tryz.results72
attribute [simp] Tryz.results73
attribute [simp] Tryz.results74
attribute [simp] Tryz.results75
attribute [simp] Tryz.results76
attribute [simp] Tryz.results77
attribute [simp] Tryz.results78
attribute [simp] Tryz.results79
attribute [simp] Tryz.results80
attribute [simp] Tryz.results81
attribute [simp] Tryz.results82
attribute [simp] Tryz.results83
attribute [simp] Tryz.results84
attribute [simp] Tryz.results85
attribute [simp] Tryz.results86
attribute [simp] Tryz.results87
attribute [simp] Tryz.results88
attribute [simp] Tryz.results89
attribute [simp] Tryz.results90
attribute [simp] Tryz.results91
attribute [simp] Tryz.results92
attribute [simp] Tryz.results93
attribute [simp] Tryz.results94
attribute [simp] Tryz.results95
attribute [simp] Tryz.results96
attribute [simp] Tryz.results97
attribute [simp] Tryz.results98
attribute [simp] Tryz.results99
attribute [simp] Tryz.results100
attribute [simp] Tryz.results101
attribute [simp] Tryz.results102
attribute [simp] Tryz.results103
attribute [simp] Tryz.results104
attribute [simp] Tryz.results105
attribute [simp] Tryz.results106
attribute [simp] Tryz.results107
attribute [simp] Tryz.results108
attribute [simp] Tryz.results109
attribute [simp] Tryz.results110
attribute [simp] Tryz.results111
attribute [simp] Tryz.results112
attribute [simp] Tryz.results113
attribute [simp] Tryz.results114
attribute [simp] Tryz.results115
attribute [simp] Tryz.results116
attribute [simp] Tryz.results117
attribute [simp] Tryz.results118
attribute [simp] Tryz.results119
attribute [simp] Tryz.results120
attribute [simp] Tryz.results121
attribute [simp] Tryz.results122
attribute [simp] Tryz.results123
attribute [simp] Tryz.results124
attribute [simp] Tryz.results125
attribute [simp] Tryz.results126
attribute [simp] Tryz.results127
attribute [simp] Tryz.results128
attribute [simp] Tryz.results129
attribute [simp] Tryz.results130
attribute [simp] Tryz.results131
attribute [simp] Tryz.results132
attribute [simp] Tryz.results133
attribute [simp] Tryz.results134
attribute [simp] Tryz.results135
attribute [simp] Tryz.results136
attribute [simp] Tryz.results137
attribute [simp] Tryz.results138
attribute [simp] Tryz.results139
attribute [simp] Tryz.results140
attribute [simp] Tryz.results141
attribute [simp] Tryz.results142
attribute [simp] Tryz.results143
attribute [simp] Tryz.results144
attribute [simp] Tryz.results145
attribute [simp] Tryz.results146
attribute [simp] Tryz.results147
attribute [simp] Tryz.results148
attribute [simp] Tryz.results149
attribute [simp] Tryz.results150
attribute [simp] Tryz.results151
attribute [simp] Tryz.results152
attribute [simp] Tryz.results153
attribute [simp] Tryz.results154
attribute [simp] Tryz.results155
attribute [simp] Tryz.results156
attribute [simp] Tryz.results157
attribute [simp] Tryz.results158
attribute [simp] Tryz.results159
attribute [simp] Tryz.results160
attribute [simp] Tryz.results161
attribute [simp] Tryz.results162
attribute [simp] Tryz.results163
attribute [simp] Tryz.results164
attribute [simp] Tryz.results165
attribute [simp] Tryz.results166
attribute [simp] Tryz.results167
attribute [simp] Tryz.results168
attribute [simp] Tryz.results169
attribute [simp] Tryz.results170
attribute [simp] Tryz.results171
attribute [simp] Tryz.results172
attribute [simp] Tryz.results173
attribute [simp] Tryz.results174
attribute [simp] Tryz.results175
attribute [simp] Tryz.results176
attribute [simp] Tryz.results177
attribute [simp] Tryz.results178
attribute [simp] Tryz.results179
attribute [simp] Tryz.results180
attribute [simp] Tryz.results181
attribute [simp] Tryz.results182
attribute [simp] Tryz.results183
attribute [simp] Tryz.results184
attribute [simp] Tryz.results185
attribute [simp] Tryz.results186
attribute [simp] Tryz.results187
attribute [simp] Tryz.results188
attribute [simp] Tryz.results189
attribute [simp] Tryz.results190
attribute [simp] Tryz.results191
attribute [simp] Tryz.results192
attribute [simp] Tryz.results193
attribute [simp] Tryz.results194
attribute [simp] Tryz.results195
attribute [simp] Tryz.results196
attribute [simp] Tryz.results197
attribute [simp] Tryz.results198
attribute [simp] Tryz.results199
attribute [simp] Tryz.results200
attribute [simp] Tryz.results201
attribute [simp] Tryz.results202
attribute [simp] Tryz.results203
attribute [simp] Tryz.results204
attribute [simp] Tryz.results205
attribute [simp] Tryz.results206
attribute [simp] Tryz.results207
attribute [simp] Tryz.results208
attribute [simp] Tryz.results209
attribute [simp] Tryz.results210
attribute [simp] Tryz.results211
attribute [simp] Tryz.results212
attribute [simp] Tryz.results213
attribute [simp] Tryz.results214
attribute [simp] Tryz.results215
attribute [simp] Tryz.results216
attribute [simp] Tryz.results217
attribute [simp] Tryz.results218
attribute [simp] Tryz.results219
attribute [simp] Tryz.results220
attribute [simp] Tryz.results221
attribute [simp] Tryz.results222
attribute [simp] Tryz.results223
attribute [simp] Tryz.results224
attribute [simp] Tryz.results225
attribute [simp] Tryz.results226
attribute [simp] Tryz.results227
attribute [simp] Tryz.results228
attribute [simp] Tryz.results229
attribute [simp] Tryz.results230
attribute [simp] Tryz.results231
attribute [simp] Tryz.results232
attribute [simp] Tryz.results233
attribute [simp] Tryz.results234
attribute [simp] Tryz.results235
attribute [simp] Tryz.results236
attribute [simp] Tryz.results237
attribute [simp] Tryz.results238
attribute [simp] Tryz.results239
attribute [simp] Tryz.results240
attribute [simp] Tryz.results241
attribute [simp] Tryz.results242
attribute [simp] Tryz.results243
attribute [simp] Tryz.results244
attribute [simp] Tryz.results245
attribute [simp] Tryz.results246
attribute [simp] Tryz.results247
attribute [simp] Tryz.results248
attribute [simp] Tryz.results249
attribute [simp] Tryz.results250
attribute [simp] Tryz.results251
attribute [simp] Tryz.results252
attribute [simp] Tryz.results253
attribute [simp] Tryz.results254
attribute [simp] Tryz.results255
attribute [simp] Tryz.results256
attribute [simp] Tryz.results257
attribute [simp] Tryz.results258
attribute [simp] Tryz.results259
attribute [simp] Tryz.results260
attribute [simp] Tryz.results261
attribute [simp] Tryz.results262
attribute [simp] Tryz.results263
attribute [simp] Tryz.results264
attribute [simp] Tryz.results265
attribute [simp] Tryz.results266
attribute [simp] Tryz.results267
attribute [simp] Tryz.results268
attribute [simp] Tryz.results269
attribute [simp] Tryz.results270
attribute [simp] Tryz.results271
attribute [simp] Tryz.results272
attribute [simp] Tryz.results273
attribute [simp] Tryz.results274
attribute [simp] Tryz.results275
attribute [simp] Tryz.results276
attribute [simp] Tryz.results277
attribute [simp] Tryz.results278
attribute [simp] Tryz.results279
attribute [simp] Tryz.results280
attribute [simp] Tryz.results281
attribute [simp] Tryz.results282
attribute [simp] Tryz.results283
attribute [simp] Tryz.results284
attribute [simp] Tryz.results285
attribute [simp] Tryz.results286
attribute [simp] Tryz.results287
attribute [simp] Tryz.results288
attribute [simp] Tryz.results289
attribute [simp] Tryz.results290
attribute [simp] Tryz.results291
attribute [simp] Tryz.results292
attribute [simp] Tryz.results293
attribute [simp] Tryz.results294
attribute [simp] Tryz.results295
attribute [simp] Tryz.results296
attribute [simp] Tryz.results297
attribute [simp] Tryz.results298
attribute [simp] Tryz.results299
attribute [simp] Tryz.results300
theorem Tryz.mx : Tryz.prog.follows .mixedOrders = true := by kernel_rfl
end Go.Proofs
