/-
  What simp is to know of the types of this translation: sizes, zero values, underlying types; and of the results of its functions. Written by a program of ours.
-/
import Derived.Test.YtkcicllfpdcecaaDoorProg
import Derived.KernelRfl
namespace Go.Proofs
open Go
set_option maxRecDepth 100000
@[simp] theorem Tryd.info0 : Tryd.prog.info? 0 = some Tryd.t0 := Tryd.type0
@[simp] theorem Tryd.size0 : Tryd.t0.size = 1 := rfl
@[simp] theorem Tryd.bytes0 : Tryd.t0.bytes = 0 := rfl
@[simp] theorem Tryd.zero0 : Tryd.t0.zero = some (.tuple #[]) := rfl
attribute [simp] Tryd.underlying0
@[simp] theorem Tryd.info1 : Tryd.prog.info? 1 = some Tryd.t1 := Tryd.type1
@[simp] theorem Tryd.size1 : Tryd.t1.size = 1 := rfl
@[simp] theorem Tryd.bytes1 : Tryd.t1.bytes = 8 := rfl
@[simp] theorem Tryd.zero1 : Tryd.t1.zero = some (.nilFunc) := rfl
attribute [simp] Tryd.underlying1
@[simp] theorem Tryd.info2 : Tryd.prog.info? 2 = some Tryd.t2 := Tryd.type2
@[simp] theorem Tryd.size2 : Tryd.t2.size = 1 := rfl
@[simp] theorem Tryd.bytes2 : Tryd.t2.bytes = 8 := rfl
@[simp] theorem Tryd.zero2 : Tryd.t2.zero = some (.int .i64 0) := rfl
attribute [simp] Tryd.underlying2
@[simp] theorem Tryd.info3 : Tryd.prog.info? 3 = some Tryd.t3 := Tryd.type3
@[simp] theorem Tryd.size3 : Tryd.t3.size = 1 := rfl
@[simp] theorem Tryd.bytes3 : Tryd.t3.bytes = 8 := rfl
@[simp] theorem Tryd.zero3 : Tryd.t3.zero = some (.int .i64 0) := rfl
attribute [simp] Tryd.underlying3
@[simp] theorem Tryd.info4 : Tryd.prog.info? 4 = some Tryd.t4 := Tryd.type4
@[simp] theorem Tryd.size4 : Tryd.t4.size = 1 := rfl
@[simp] theorem Tryd.bytes4 : Tryd.t4.bytes = 1 := rfl
@[simp] theorem Tryd.zero4 : Tryd.t4.zero = some (.bool false) := rfl
attribute [simp] Tryd.underlying4
@[simp] theorem Tryd.info5 : Tryd.prog.info? 5 = some Tryd.t5 := Tryd.type5
@[simp] theorem Tryd.size5 : Tryd.t5.size = 1 := rfl
@[simp] theorem Tryd.bytes5 : Tryd.t5.bytes = 1 := rfl
@[simp] theorem Tryd.zero5 : Tryd.t5.zero = some (.int .u8 0) := rfl
attribute [simp] Tryd.underlying5
@[simp] theorem Tryd.info6 : Tryd.prog.info? 6 = some Tryd.t6 := Tryd.type6
@[simp] theorem Tryd.size6 : Tryd.t6.size = 1 := rfl
@[simp] theorem Tryd.bytes6 : Tryd.t6.bytes = 1 := rfl
@[simp] theorem Tryd.zero6 : Tryd.t6.zero = some (.int .u8 0) := rfl
attribute [simp] Tryd.underlying6
@[simp] theorem Tryd.info7 : Tryd.prog.info? 7 = some Tryd.t7 := Tryd.type7
@[simp] theorem Tryd.size7 : Tryd.t7.size = 4 := rfl
@[simp] theorem Tryd.bytes7 : Tryd.t7.bytes = 24 := rfl
@[simp] theorem Tryd.zero7 : Tryd.t7.zero = some (.agg #[.int .i64 0, .int .i64 0, .bool false, .int .u8 0]) := rfl
attribute [simp] Tryd.underlying7
@[simp] theorem Tryd.info8 : Tryd.prog.info? 8 = some Tryd.t8 := Tryd.type8
@[simp] theorem Tryd.size8 : Tryd.t8.size = 4 := rfl
@[simp] theorem Tryd.bytes8 : Tryd.t8.bytes = 24 := rfl
@[simp] theorem Tryd.zero8 : Tryd.t8.zero = some (.agg #[.int .i64 0, .int .i64 0, .bool false, .int .u8 0]) := rfl
attribute [simp] Tryd.underlying8
@[simp] theorem Tryd.info9 : Tryd.prog.info? 9 = some Tryd.t9 := Tryd.type9
@[simp] theorem Tryd.size9 : Tryd.t9.size = 1 := rfl
@[simp] theorem Tryd.bytes9 : Tryd.t9.bytes = 16 := rfl
@[simp] theorem Tryd.zero9 : Tryd.t9.zero = some (.string ⟨#[]⟩) := rfl
attribute [simp] Tryd.underlying9
@[simp] theorem Tryd.info10 : Tryd.prog.info? 10 = some Tryd.t10 := Tryd.type10
@[simp] theorem Tryd.size10 : Tryd.t10.size = 1 := rfl
@[simp] theorem Tryd.bytes10 : Tryd.t10.bytes = 16 := rfl
@[simp] theorem Tryd.zero10 : Tryd.t10.zero = some (.string ⟨#[]⟩) := rfl
attribute [simp] Tryd.underlying10
@[simp] theorem Tryd.info11 : Tryd.prog.info? 11 = some Tryd.t11 := Tryd.type11
@[simp] theorem Tryd.size11 : Tryd.t11.size = 1 := rfl
@[simp] theorem Tryd.bytes11 : Tryd.t11.bytes = 16 := rfl
@[simp] theorem Tryd.zero11 : Tryd.t11.zero = some (.string ⟨#[]⟩) := rfl
attribute [simp] Tryd.underlying11
@[simp] theorem Tryd.info12 : Tryd.prog.info? 12 = some Tryd.t12 := Tryd.type12
@[simp] theorem Tryd.size12 : Tryd.t12.size = 1 := rfl
@[simp] theorem Tryd.bytes12 : Tryd.t12.bytes = 8 := rfl
@[simp] theorem Tryd.zero12 : Tryd.t12.zero = some (.int .u64 0) := rfl
attribute [simp] Tryd.underlying12
@[simp] theorem Tryd.info13 : Tryd.prog.info? 13 = some Tryd.t13 := Tryd.type13
@[simp] theorem Tryd.size13 : Tryd.t13.size = 2 := rfl
@[simp] theorem Tryd.bytes13 : Tryd.t13.bytes = 24 := rfl
@[simp] theorem Tryd.zero13 : Tryd.t13.zero = some (.agg #[.string ⟨#[]⟩, .int .u64 0]) := rfl
attribute [simp] Tryd.underlying13
@[simp] theorem Tryd.info14 : Tryd.prog.info? 14 = some Tryd.t14 := Tryd.type14
@[simp] theorem Tryd.size14 : Tryd.t14.size = 2 := rfl
@[simp] theorem Tryd.bytes14 : Tryd.t14.bytes = 24 := rfl
@[simp] theorem Tryd.zero14 : Tryd.t14.zero = some (.agg #[.string ⟨#[]⟩, .int .u64 0]) := rfl
attribute [simp] Tryd.underlying14
@[simp] theorem Tryd.info15 : Tryd.prog.info? 15 = some Tryd.t15 := Tryd.type15
@[simp] theorem Tryd.size15 : Tryd.t15.size = 1 := rfl
@[simp] theorem Tryd.bytes15 : Tryd.t15.bytes = 8 := rfl
@[simp] theorem Tryd.zero15 : Tryd.t15.zero = some (.pointer none) := rfl
attribute [simp] Tryd.underlying15
@[simp] theorem Tryd.info16 : Tryd.prog.info? 16 = some Tryd.t16 := Tryd.type16
@[simp] theorem Tryd.size16 : Tryd.t16.size = 1 := rfl
@[simp] theorem Tryd.bytes16 : Tryd.t16.bytes = 8 := rfl
@[simp] theorem Tryd.zero16 : Tryd.t16.zero = some (.pointer none) := rfl
attribute [simp] Tryd.underlying16
@[simp] theorem Tryd.info17 : Tryd.prog.info? 17 = some Tryd.t17 := Tryd.type17
@[simp] theorem Tryd.size17 : Tryd.t17.size = 1 := rfl
@[simp] theorem Tryd.bytes17 : Tryd.t17.bytes = 8 := rfl
@[simp] theorem Tryd.zero17 : Tryd.t17.zero = some (.pointer none) := rfl
attribute [simp] Tryd.underlying17
@[simp] theorem Tryd.info18 : Tryd.prog.info? 18 = some Tryd.t18 := Tryd.type18
@[simp] theorem Tryd.size18 : Tryd.t18.size = 1 := rfl
@[simp] theorem Tryd.bytes18 : Tryd.t18.bytes = 8 := rfl
@[simp] theorem Tryd.zero18 : Tryd.t18.zero = some (.agg #[.pointer none]) := rfl
attribute [simp] Tryd.underlying18
@[simp] theorem Tryd.info19 : Tryd.prog.info? 19 = some Tryd.t19 := Tryd.type19
@[simp] theorem Tryd.size19 : Tryd.t19.size = 1 := rfl
@[simp] theorem Tryd.bytes19 : Tryd.t19.bytes = 8 := rfl
@[simp] theorem Tryd.zero19 : Tryd.t19.zero = some (.agg #[.pointer none]) := rfl
attribute [simp] Tryd.underlying19
@[simp] theorem Tryd.info20 : Tryd.prog.info? 20 = some Tryd.t20 := Tryd.type20
@[simp] theorem Tryd.size20 : Tryd.t20.size = 1 := rfl
@[simp] theorem Tryd.bytes20 : Tryd.t20.bytes = 16 := rfl
@[simp] theorem Tryd.zero20 : Tryd.t20.zero = some (.nilIface) := rfl
attribute [simp] Tryd.underlying20
@[simp] theorem Tryd.info21 : Tryd.prog.info? 21 = some Tryd.t21 := Tryd.type21
@[simp] theorem Tryd.size21 : Tryd.t21.size = 1 := rfl
@[simp] theorem Tryd.bytes21 : Tryd.t21.bytes = 4 := rfl
@[simp] theorem Tryd.zero21 : Tryd.t21.zero = some (.int .i32 0) := rfl
attribute [simp] Tryd.underlying21
@[simp] theorem Tryd.info22 : Tryd.prog.info? 22 = some Tryd.t22 := Tryd.type22
@[simp] theorem Tryd.size22 : Tryd.t22.size = 5 := rfl
@[simp] theorem Tryd.bytes22 : Tryd.t22.bytes = 40 := rfl
@[simp] theorem Tryd.zero22 : Tryd.t22.zero = some (.agg #[.int .i64 0, .int .i64 0, .int .i64 0, .int .i64 0, .int .i64 0]) := rfl
attribute [simp] Tryd.underlying22
@[simp] theorem Tryd.info23 : Tryd.prog.info? 23 = some Tryd.t23 := Tryd.type23
@[simp] theorem Tryd.size23 : Tryd.t23.size = 1 := rfl
@[simp] theorem Tryd.bytes23 : Tryd.t23.bytes = 24 := rfl
@[simp] theorem Tryd.zero23 : Tryd.t23.zero = some (.slice none 0 0) := rfl
attribute [simp] Tryd.underlying23
@[simp] theorem Tryd.info24 : Tryd.prog.info? 24 = some Tryd.t24 := Tryd.type24
@[simp] theorem Tryd.size24 : Tryd.t24.size = 4 := rfl
@[simp] theorem Tryd.bytes24 : Tryd.t24.bytes = 32 := rfl
@[simp] theorem Tryd.zero24 : Tryd.t24.zero = some (.agg #[.int .i64 0, .int .i64 0, .int .i64 0, .int .i64 0]) := rfl
attribute [simp] Tryd.underlying24
@[simp] theorem Tryd.info25 : Tryd.prog.info? 25 = some Tryd.t25 := Tryd.type25
@[simp] theorem Tryd.size25 : Tryd.t25.size = 13 := rfl
@[simp] theorem Tryd.bytes25 : Tryd.t25.bytes = 104 := rfl
@[simp] theorem Tryd.zero25 : Tryd.t25.zero = some (.agg #[.int .i64 0, .int .i64 0, .int .i64 0, .int .i64 0, .int .i64 0, .int .i64 0, .int .i64 0, .int .i64 0, .int .i64 0, .int .i64 0, .int .i64 0, .int .i64 0, .bool false]) := rfl
attribute [simp] Tryd.underlying25
@[simp] theorem Tryd.info26 : Tryd.prog.info? 26 = some Tryd.t26 := Tryd.type26
@[simp] theorem Tryd.size26 : Tryd.t26.size = 13 := rfl
@[simp] theorem Tryd.bytes26 : Tryd.t26.bytes = 104 := rfl
@[simp] theorem Tryd.zero26 : Tryd.t26.zero = some (.agg #[.int .i64 0, .int .i64 0, .int .i64 0, .int .i64 0, .int .i64 0, .int .i64 0, .int .i64 0, .int .i64 0, .int .i64 0, .int .i64 0, .int .i64 0, .int .i64 0, .bool false]) := rfl
attribute [simp] Tryd.underlying26
@[simp] theorem Tryd.info27 : Tryd.prog.info? 27 = some Tryd.t27 := Tryd.type27
@[simp] theorem Tryd.size27 : Tryd.t27.size = 1 := rfl
@[simp] theorem Tryd.bytes27 : Tryd.t27.bytes = 24 := rfl
@[simp] theorem Tryd.zero27 : Tryd.t27.zero = some (.slice none 0 0) := rfl
attribute [simp] Tryd.underlying27
@[simp] theorem Tryd.info28 : Tryd.prog.info? 28 = some Tryd.t28 := Tryd.type28
@[simp] theorem Tryd.size28 : Tryd.t28.size = 1 := rfl
@[simp] theorem Tryd.bytes28 : Tryd.t28.bytes = 24 := rfl
@[simp] theorem Tryd.zero28 : Tryd.t28.zero = some (.slice none 0 0) := rfl
attribute [simp] Tryd.underlying28
@[simp] theorem Tryd.info29 : Tryd.prog.info? 29 = some Tryd.t29 := Tryd.type29
@[simp] theorem Tryd.size29 : Tryd.t29.size = 1 := rfl
@[simp] theorem Tryd.bytes29 : Tryd.t29.bytes = 24 := rfl
@[simp] theorem Tryd.zero29 : Tryd.t29.zero = some (.slice none 0 0) := rfl
attribute [simp] Tryd.underlying29
@[simp] theorem Tryd.info30 : Tryd.prog.info? 30 = some Tryd.t30 := Tryd.type30
@[simp] theorem Tryd.size30 : Tryd.t30.size = 16 := rfl
@[simp] theorem Tryd.bytes30 : Tryd.t30.bytes = 176 := rfl
@[simp] theorem Tryd.zero30 : Tryd.t30.zero = some (.agg #[.int .i64 0, .int .i64 0, .int .i64 0, .int .i64 0, .int .i64 0, .int .i64 0, .int .i64 0, .int .i64 0, .int .i64 0, .int .i64 0, .int .i64 0, .int .i64 0, .bool false, .slice none 0 0, .slice none 0 0, .slice none 0 0]) := rfl
attribute [simp] Tryd.underlying30
@[simp] theorem Tryd.info31 : Tryd.prog.info? 31 = some Tryd.t31 := Tryd.type31
@[simp] theorem Tryd.size31 : Tryd.t31.size = 16 := rfl
@[simp] theorem Tryd.bytes31 : Tryd.t31.bytes = 176 := rfl
@[simp] theorem Tryd.zero31 : Tryd.t31.zero = some (.agg #[.int .i64 0, .int .i64 0, .int .i64 0, .int .i64 0, .int .i64 0, .int .i64 0, .int .i64 0, .int .i64 0, .int .i64 0, .int .i64 0, .int .i64 0, .int .i64 0, .bool false, .slice none 0 0, .slice none 0 0, .slice none 0 0]) := rfl
attribute [simp] Tryd.underlying31
@[simp] theorem Tryd.info32 : Tryd.prog.info? 32 = some Tryd.t32 := Tryd.type32
@[simp] theorem Tryd.size32 : Tryd.t32.size = 1 := rfl
@[simp] theorem Tryd.bytes32 : Tryd.t32.bytes = 0 := rfl
@[simp] theorem Tryd.zero32 : Tryd.t32.zero = some (.tuple #[.agg #[.int .i64 0, .int .i64 0, .int .i64 0, .int .i64 0, .int .i64 0, .int .i64 0, .int .i64 0, .int .i64 0, .int .i64 0, .int .i64 0, .int .i64 0, .int .i64 0, .bool false, .slice none 0 0, .slice none 0 0, .slice none 0 0], .bool false]) := rfl
attribute [simp] Tryd.underlying32
@[simp] theorem Tryd.info33 : Tryd.prog.info? 33 = some Tryd.t33 := Tryd.type33
@[simp] theorem Tryd.size33 : Tryd.t33.size = 1 := rfl
@[simp] theorem Tryd.bytes33 : Tryd.t33.bytes = 8 := rfl
@[simp] theorem Tryd.zero33 : Tryd.t33.zero = some (.nilFunc) := rfl
attribute [simp] Tryd.underlying33
@[simp] theorem Tryd.info34 : Tryd.prog.info? 34 = some Tryd.t34 := Tryd.type34
@[simp] theorem Tryd.size34 : Tryd.t34.size = 1 := rfl
@[simp] theorem Tryd.bytes34 : Tryd.t34.bytes = 8 := rfl
@[simp] theorem Tryd.zero34 : Tryd.t34.zero = some (.nilFunc) := rfl
attribute [simp] Tryd.underlying34
@[simp] theorem Tryd.info35 : Tryd.prog.info? 35 = some Tryd.t35 := Tryd.type35
@[simp] theorem Tryd.size35 : Tryd.t35.size = 1 := rfl
@[simp] theorem Tryd.bytes35 : Tryd.t35.bytes = 8 := rfl
@[simp] theorem Tryd.zero35 : Tryd.t35.zero = some (.nilFunc) := rfl
attribute [simp] Tryd.underlying35
@[simp] theorem Tryd.info36 : Tryd.prog.info? 36 = some Tryd.t36 := Tryd.type36
@[simp] theorem Tryd.size36 : Tryd.t36.size = 1 := rfl
@[simp] theorem Tryd.bytes36 : Tryd.t36.bytes = 8 := rfl
@[simp] theorem Tryd.zero36 : Tryd.t36.zero = some (.int .i64 0) := rfl
attribute [simp] Tryd.underlying36
@[simp] theorem Tryd.info37 : Tryd.prog.info? 37 = some Tryd.t37 := Tryd.type37
@[simp] theorem Tryd.size37 : Tryd.t37.size = 1 := rfl
@[simp] theorem Tryd.bytes37 : Tryd.t37.bytes = 0 := rfl
@[simp] theorem Tryd.zero37 : Tryd.t37.zero = some (.tuple #[.int .i64 0, .int .i64 0]) := rfl
attribute [simp] Tryd.underlying37
@[simp] theorem Tryd.info38 : Tryd.prog.info? 38 = some Tryd.t38 := Tryd.type38
@[simp] theorem Tryd.size38 : Tryd.t38.size = 1 := rfl
@[simp] theorem Tryd.bytes38 : Tryd.t38.bytes = 8 := rfl
@[simp] theorem Tryd.zero38 : Tryd.t38.zero = some (.nilFunc) := rfl
attribute [simp] Tryd.underlying38
@[simp] theorem Tryd.info39 : Tryd.prog.info? 39 = some Tryd.t39 := Tryd.type39
@[simp] theorem Tryd.size39 : Tryd.t39.size = 1 := rfl
@[simp] theorem Tryd.bytes39 : Tryd.t39.bytes = 8 := rfl
@[simp] theorem Tryd.zero39 : Tryd.t39.zero = some (.nilFunc) := rfl
attribute [simp] Tryd.underlying39
@[simp] theorem Tryd.info40 : Tryd.prog.info? 40 = some Tryd.t40 := Tryd.type40
@[simp] theorem Tryd.size40 : Tryd.t40.size = 1 := rfl
@[simp] theorem Tryd.bytes40 : Tryd.t40.bytes = 8 := rfl
@[simp] theorem Tryd.zero40 : Tryd.t40.zero = some (.nilFunc) := rfl
attribute [simp] Tryd.underlying40
@[simp] theorem Tryd.info41 : Tryd.prog.info? 41 = some Tryd.t41 := Tryd.type41
@[simp] theorem Tryd.size41 : Tryd.t41.size = 1 := rfl
@[simp] theorem Tryd.bytes41 : Tryd.t41.bytes = 8 := rfl
@[simp] theorem Tryd.zero41 : Tryd.t41.zero = some (.nilFunc) := rfl
attribute [simp] Tryd.underlying41
@[simp] theorem Tryd.info42 : Tryd.prog.info? 42 = some Tryd.t42 := Tryd.type42
@[simp] theorem Tryd.size42 : Tryd.t42.size = 1 := rfl
@[simp] theorem Tryd.bytes42 : Tryd.t42.bytes = 0 := rfl
@[simp] theorem Tryd.zero42 : Tryd.t42.zero = some (.tuple #[.slice none 0 0, .int .i64 0]) := rfl
attribute [simp] Tryd.underlying42
@[simp] theorem Tryd.info43 : Tryd.prog.info? 43 = some Tryd.t43 := Tryd.type43
@[simp] theorem Tryd.size43 : Tryd.t43.size = 1 := rfl
@[simp] theorem Tryd.bytes43 : Tryd.t43.bytes = 8 := rfl
@[simp] theorem Tryd.zero43 : Tryd.t43.zero = some (.nilFunc) := rfl
attribute [simp] Tryd.underlying43
@[simp] theorem Tryd.info44 : Tryd.prog.info? 44 = some Tryd.t44 := Tryd.type44
@[simp] theorem Tryd.size44 : Tryd.t44.size = 1 := rfl
@[simp] theorem Tryd.bytes44 : Tryd.t44.bytes = 8 := rfl
@[simp] theorem Tryd.zero44 : Tryd.t44.zero = some (.nilFunc) := rfl
attribute [simp] Tryd.underlying44
@[simp] theorem Tryd.info45 : Tryd.prog.info? 45 = some Tryd.t45 := Tryd.type45
@[simp] theorem Tryd.size45 : Tryd.t45.size = 1 := rfl
@[simp] theorem Tryd.bytes45 : Tryd.t45.bytes = 8 := rfl
@[simp] theorem Tryd.zero45 : Tryd.t45.zero = some (.nilFunc) := rfl
attribute [simp] Tryd.underlying45
@[simp] theorem Tryd.info46 : Tryd.prog.info? 46 = some Tryd.t46 := Tryd.type46
@[simp] theorem Tryd.size46 : Tryd.t46.size = 1 := rfl
@[simp] theorem Tryd.bytes46 : Tryd.t46.bytes = 8 := rfl
@[simp] theorem Tryd.zero46 : Tryd.t46.zero = some (.nilFunc) := rfl
attribute [simp] Tryd.underlying46
@[simp] theorem Tryd.info47 : Tryd.prog.info? 47 = some Tryd.t47 := Tryd.type47
@[simp] theorem Tryd.size47 : Tryd.t47.size = 1 := rfl
@[simp] theorem Tryd.bytes47 : Tryd.t47.bytes = 8 := rfl
@[simp] theorem Tryd.zero47 : Tryd.t47.zero = some (.int .u64 0) := rfl
attribute [simp] Tryd.underlying47
@[simp] theorem Tryd.info48 : Tryd.prog.info? 48 = some Tryd.t48 := Tryd.type48
@[simp] theorem Tryd.size48 : Tryd.t48.size = 1 := rfl
@[simp] theorem Tryd.bytes48 : Tryd.t48.bytes = 0 := rfl
@[simp] theorem Tryd.zero48 : Tryd.t48.zero = some (.tuple #[.int .i64 0, .int .i64 0, .int .i64 0]) := rfl
attribute [simp] Tryd.underlying48
@[simp] theorem Tryd.info49 : Tryd.prog.info? 49 = some Tryd.t49 := Tryd.type49
@[simp] theorem Tryd.size49 : Tryd.t49.size = 1 := rfl
@[simp] theorem Tryd.bytes49 : Tryd.t49.bytes = 8 := rfl
@[simp] theorem Tryd.zero49 : Tryd.t49.zero = some (.nilFunc) := rfl
attribute [simp] Tryd.underlying49
@[simp] theorem Tryd.info50 : Tryd.prog.info? 50 = some Tryd.t50 := Tryd.type50
@[simp] theorem Tryd.size50 : Tryd.t50.size = 1 := rfl
@[simp] theorem Tryd.bytes50 : Tryd.t50.bytes = 8 := rfl
@[simp] theorem Tryd.zero50 : Tryd.t50.zero = some (.nilFunc) := rfl
attribute [simp] Tryd.underlying50
@[simp] theorem Tryd.info51 : Tryd.prog.info? 51 = some Tryd.t51 := Tryd.type51
@[simp] theorem Tryd.size51 : Tryd.t51.size = 1 := rfl
@[simp] theorem Tryd.bytes51 : Tryd.t51.bytes = 24 := rfl
@[simp] theorem Tryd.zero51 : Tryd.t51.zero = some (.slice none 0 0) := rfl
attribute [simp] Tryd.underlying51
@[simp] theorem Tryd.info52 : Tryd.prog.info? 52 = some Tryd.t52 := Tryd.type52
@[simp] theorem Tryd.size52 : Tryd.t52.size = 1 := rfl
@[simp] theorem Tryd.bytes52 : Tryd.t52.bytes = 8 := rfl
@[simp] theorem Tryd.zero52 : Tryd.t52.zero = some (.nilFunc) := rfl
attribute [simp] Tryd.underlying52
@[simp] theorem Tryd.info53 : Tryd.prog.info? 53 = some Tryd.t53 := Tryd.type53
@[simp] theorem Tryd.size53 : Tryd.t53.size = 1 := rfl
@[simp] theorem Tryd.bytes53 : Tryd.t53.bytes = 8 := rfl
@[simp] theorem Tryd.zero53 : Tryd.t53.zero = some (.nilFunc) := rfl
attribute [simp] Tryd.underlying53
@[simp] theorem Tryd.info54 : Tryd.prog.info? 54 = some Tryd.t54 := Tryd.type54
@[simp] theorem Tryd.size54 : Tryd.t54.size = 1 := rfl
@[simp] theorem Tryd.bytes54 : Tryd.t54.bytes = 8 := rfl
@[simp] theorem Tryd.zero54 : Tryd.t54.zero = some (.nilFunc) := rfl
attribute [simp] Tryd.underlying54
@[simp] theorem Tryd.info55 : Tryd.prog.info? 55 = some Tryd.t55 := Tryd.type55
@[simp] theorem Tryd.size55 : Tryd.t55.size = 1 := rfl
@[simp] theorem Tryd.bytes55 : Tryd.t55.bytes = 8 := rfl
@[simp] theorem Tryd.zero55 : Tryd.t55.zero = some (.nilFunc) := rfl
attribute [simp] Tryd.underlying55
@[simp] theorem Tryd.info56 : Tryd.prog.info? 56 = some Tryd.t56 := Tryd.type56
@[simp] theorem Tryd.size56 : Tryd.t56.size = 1 := rfl
@[simp] theorem Tryd.bytes56 : Tryd.t56.bytes = 8 := rfl
@[simp] theorem Tryd.zero56 : Tryd.t56.zero = some (.nilFunc) := rfl
attribute [simp] Tryd.underlying56
@[simp] theorem Tryd.info57 : Tryd.prog.info? 57 = some Tryd.t57 := Tryd.type57
@[simp] theorem Tryd.size57 : Tryd.t57.size = 5 := rfl
@[simp] theorem Tryd.bytes57 : Tryd.t57.bytes = 40 := rfl
@[simp] theorem Tryd.zero57 : Tryd.t57.zero = some (.agg #[.int .i64 0, .int .i64 0, .int .i64 0, .int .i64 0, .int .i64 0]) := rfl
attribute [simp] Tryd.underlying57
@[simp] theorem Tryd.info58 : Tryd.prog.info? 58 = some Tryd.t58 := Tryd.type58
@[simp] theorem Tryd.size58 : Tryd.t58.size = 5 := rfl
@[simp] theorem Tryd.bytes58 : Tryd.t58.bytes = 40 := rfl
@[simp] theorem Tryd.zero58 : Tryd.t58.zero = some (.agg #[.int .i64 0, .int .i64 0, .int .i64 0, .int .i64 0, .int .i64 0]) := rfl
attribute [simp] Tryd.underlying58
@[simp] theorem Tryd.info59 : Tryd.prog.info? 59 = some Tryd.t59 := Tryd.type59
@[simp] theorem Tryd.size59 : Tryd.t59.size = 1 := rfl
@[simp] theorem Tryd.bytes59 : Tryd.t59.bytes = 8 := rfl
@[simp] theorem Tryd.zero59 : Tryd.t59.zero = some (.nilFunc) := rfl
attribute [simp] Tryd.underlying59
@[simp] theorem Tryd.info60 : Tryd.prog.info? 60 = some Tryd.t60 := Tryd.type60
@[simp] theorem Tryd.size60 : Tryd.t60.size = 1 := rfl
@[simp] theorem Tryd.bytes60 : Tryd.t60.bytes = 8 := rfl
@[simp] theorem Tryd.zero60 : Tryd.t60.zero = some (.int .u64 0) := rfl
attribute [simp] Tryd.underlying60
@[simp] theorem Tryd.info61 : Tryd.prog.info? 61 = some Tryd.t61 := Tryd.type61
@[simp] theorem Tryd.size61 : Tryd.t61.size = 1 := rfl
@[simp] theorem Tryd.bytes61 : Tryd.t61.bytes = 8 := rfl
@[simp] theorem Tryd.zero61 : Tryd.t61.zero = some (.nilFunc) := rfl
attribute [simp] Tryd.underlying61
@[simp] theorem Tryd.info62 : Tryd.prog.info? 62 = some Tryd.t62 := Tryd.type62
@[simp] theorem Tryd.size62 : Tryd.t62.size = 1 := rfl
@[simp] theorem Tryd.bytes62 : Tryd.t62.bytes = 8 := rfl
@[simp] theorem Tryd.zero62 : Tryd.t62.zero = some (.nilFunc) := rfl
attribute [simp] Tryd.underlying62
@[simp] theorem Tryd.info63 : Tryd.prog.info? 63 = some Tryd.t63 := Tryd.type63
@[simp] theorem Tryd.size63 : Tryd.t63.size = 1 := rfl
@[simp] theorem Tryd.bytes63 : Tryd.t63.bytes = 8 := rfl
@[simp] theorem Tryd.zero63 : Tryd.t63.zero = some (.nilFunc) := rfl
attribute [simp] Tryd.underlying63
@[simp] theorem Tryd.info64 : Tryd.prog.info? 64 = some Tryd.t64 := Tryd.type64
@[simp] theorem Tryd.size64 : Tryd.t64.size = 1 := rfl
@[simp] theorem Tryd.bytes64 : Tryd.t64.bytes = 8 := rfl
@[simp] theorem Tryd.zero64 : Tryd.t64.zero = some (.nilFunc) := rfl
attribute [simp] Tryd.underlying64
@[simp] theorem Tryd.info65 : Tryd.prog.info? 65 = some Tryd.t65 := Tryd.type65
@[simp] theorem Tryd.size65 : Tryd.t65.size = 1 := rfl
@[simp] theorem Tryd.bytes65 : Tryd.t65.bytes = 8 := rfl
@[simp] theorem Tryd.zero65 : Tryd.t65.zero = some (.nilFunc) := rfl
attribute [simp] Tryd.underlying65
@[simp] theorem Tryd.info66 : Tryd.prog.info? 66 = some Tryd.t66 := Tryd.type66
@[simp] theorem Tryd.size66 : Tryd.t66.size = 1 := rfl
@[simp] theorem Tryd.bytes66 : Tryd.t66.bytes = 0 := rfl
@[simp] theorem Tryd.zero66 : Tryd.t66.zero = some (.tuple #[.int .i64 0, .int .i64 0]) := rfl
attribute [simp] Tryd.underlying66
@[simp] theorem Tryd.info67 : Tryd.prog.info? 67 = some Tryd.t67 := Tryd.type67
@[simp] theorem Tryd.size67 : Tryd.t67.size = 1 := rfl
@[simp] theorem Tryd.bytes67 : Tryd.t67.bytes = 8 := rfl
@[simp] theorem Tryd.zero67 : Tryd.t67.zero = some (.nilFunc) := rfl
attribute [simp] Tryd.underlying67
@[simp] theorem Tryd.info68 : Tryd.prog.info? 68 = some Tryd.t68 := Tryd.type68
@[simp] theorem Tryd.size68 : Tryd.t68.size = 1 := rfl
@[simp] theorem Tryd.bytes68 : Tryd.t68.bytes = 8 := rfl
@[simp] theorem Tryd.zero68 : Tryd.t68.zero = some (.nilFunc) := rfl
attribute [simp] Tryd.underlying68
@[simp] theorem Tryd.info69 : Tryd.prog.info? 69 = some Tryd.t69 := Tryd.type69
@[simp] theorem Tryd.size69 : Tryd.t69.size = 1 := rfl
@[simp] theorem Tryd.bytes69 : Tryd.t69.bytes = 0 := rfl
@[simp] theorem Tryd.zero69 : Tryd.t69.zero = some (.tuple #[.int .i64 0, .int .i64 0, .bool false]) := rfl
attribute [simp] Tryd.underlying69
@[simp] theorem Tryd.info70 : Tryd.prog.info? 70 = some Tryd.t70 := Tryd.type70
@[simp] theorem Tryd.size70 : Tryd.t70.size = 1 := rfl
@[simp] theorem Tryd.bytes70 : Tryd.t70.bytes = 8 := rfl
@[simp] theorem Tryd.zero70 : Tryd.t70.zero = some (.nilFunc) := rfl
attribute [simp] Tryd.underlying70
@[simp] theorem Tryd.info71 : Tryd.prog.info? 71 = some Tryd.t71 := Tryd.type71
@[simp] theorem Tryd.size71 : Tryd.t71.size = 1 := rfl
@[simp] theorem Tryd.bytes71 : Tryd.t71.bytes = 8 := rfl
@[simp] theorem Tryd.zero71 : Tryd.t71.zero = some (.nilFunc) := rfl
attribute [simp] Tryd.underlying71
@[simp] theorem Tryd.info72 : Tryd.prog.info? 72 = some Tryd.t72 := Tryd.type72
@[simp] theorem Tryd.size72 : Tryd.t72.size = 1 := rfl
@[simp] theorem Tryd.bytes72 : Tryd.t72.bytes = 8 := rfl
@[simp] theorem Tryd.zero72 : Tryd.t72.zero = some (.nilFunc) := rfl
attribute [simp] Tryd.underlying72
@[simp] theorem Tryd.info73 : Tryd.prog.info? 73 = some Tryd.t73 := Tryd.type73
@[simp] theorem Tryd.size73 : Tryd.t73.size = 1 := rfl
@[simp] theorem Tryd.bytes73 : Tryd.t73.bytes = 8 := rfl
@[simp] theorem Tryd.zero73 : Tryd.t73.zero = some (.nilFunc) := rfl
attribute [simp] Tryd.underlying73
@[simp] theorem Tryd.info74 : Tryd.prog.info? 74 = some Tryd.t74 := Tryd.type74
@[simp] theorem Tryd.size74 : Tryd.t74.size = 1 := rfl
@[simp] theorem Tryd.bytes74 : Tryd.t74.bytes = 8 := rfl
@[simp] theorem Tryd.zero74 : Tryd.t74.zero = some (.nilFunc) := rfl
attribute [simp] Tryd.underlying74
@[simp] theorem Tryd.info75 : Tryd.prog.info? 75 = some Tryd.t75 := Tryd.type75
@[simp] theorem Tryd.size75 : Tryd.t75.size = 1 := rfl
@[simp] theorem Tryd.bytes75 : Tryd.t75.bytes = 8 := rfl
@[simp] theorem Tryd.zero75 : Tryd.t75.zero = some (.nilFunc) := rfl
attribute [simp] Tryd.underlying75
@[simp] theorem Tryd.info76 : Tryd.prog.info? 76 = some Tryd.t76 := Tryd.type76
@[simp] theorem Tryd.size76 : Tryd.t76.size = 1 := rfl
@[simp] theorem Tryd.bytes76 : Tryd.t76.bytes = 8 := rfl
@[simp] theorem Tryd.zero76 : Tryd.t76.zero = some (.nilFunc) := rfl
attribute [simp] Tryd.underlying76
@[simp] theorem Tryd.info77 : Tryd.prog.info? 77 = some Tryd.t77 := Tryd.type77
@[simp] theorem Tryd.size77 : Tryd.t77.size = 1 := rfl
@[simp] theorem Tryd.bytes77 : Tryd.t77.bytes = 8 := rfl
@[simp] theorem Tryd.zero77 : Tryd.t77.zero = some (.nilFunc) := rfl
attribute [simp] Tryd.underlying77
@[simp] theorem Tryd.info78 : Tryd.prog.info? 78 = some Tryd.t78 := Tryd.type78
@[simp] theorem Tryd.size78 : Tryd.t78.size = 1 := rfl
@[simp] theorem Tryd.bytes78 : Tryd.t78.bytes = 8 := rfl
@[simp] theorem Tryd.zero78 : Tryd.t78.zero = some (.nilFunc) := rfl
attribute [simp] Tryd.underlying78
@[simp] theorem Tryd.info79 : Tryd.prog.info? 79 = some Tryd.t79 := Tryd.type79
@[simp] theorem Tryd.size79 : Tryd.t79.size = 1 := rfl
@[simp] theorem Tryd.bytes79 : Tryd.t79.bytes = 0 := rfl
@[simp] theorem Tryd.zero79 : Tryd.t79.zero = some (.tuple #[.int .i64 0, .bool false]) := rfl
attribute [simp] Tryd.underlying79
@[simp] theorem Tryd.info80 : Tryd.prog.info? 80 = some Tryd.t80 := Tryd.type80
@[simp] theorem Tryd.size80 : Tryd.t80.size = 1 := rfl
@[simp] theorem Tryd.bytes80 : Tryd.t80.bytes = 8 := rfl
@[simp] theorem Tryd.zero80 : Tryd.t80.zero = some (.nilFunc) := rfl
attribute [simp] Tryd.underlying80
@[simp] theorem Tryd.info81 : Tryd.prog.info? 81 = some Tryd.t81 := Tryd.type81
@[simp] theorem Tryd.size81 : Tryd.t81.size = 1 := rfl
@[simp] theorem Tryd.bytes81 : Tryd.t81.bytes = 8 := rfl
@[simp] theorem Tryd.zero81 : Tryd.t81.zero = some (.nilFunc) := rfl
attribute [simp] Tryd.underlying81
@[simp] theorem Tryd.info82 : Tryd.prog.info? 82 = some Tryd.t82 := Tryd.type82
@[simp] theorem Tryd.size82 : Tryd.t82.size = 1 := rfl
@[simp] theorem Tryd.bytes82 : Tryd.t82.bytes = 8 := rfl
@[simp] theorem Tryd.zero82 : Tryd.t82.zero = some (.nilFunc) := rfl
attribute [simp] Tryd.underlying82
@[simp] theorem Tryd.info83 : Tryd.prog.info? 83 = some Tryd.t83 := Tryd.type83
@[simp] theorem Tryd.size83 : Tryd.t83.size = 1 := rfl
@[simp] theorem Tryd.bytes83 : Tryd.t83.bytes = 8 := rfl
@[simp] theorem Tryd.zero83 : Tryd.t83.zero = some (.nilFunc) := rfl
attribute [simp] Tryd.underlying83
@[simp] theorem Tryd.info84 : Tryd.prog.info? 84 = some Tryd.t84 := Tryd.type84
@[simp] theorem Tryd.size84 : Tryd.t84.size = 1 := rfl
@[simp] theorem Tryd.bytes84 : Tryd.t84.bytes = 8 := rfl
@[simp] theorem Tryd.zero84 : Tryd.t84.zero = some (.nilFunc) := rfl
attribute [simp] Tryd.underlying84
@[simp] theorem Tryd.info85 : Tryd.prog.info? 85 = some Tryd.t85 := Tryd.type85
@[simp] theorem Tryd.size85 : Tryd.t85.size = 1 := rfl
@[simp] theorem Tryd.bytes85 : Tryd.t85.bytes = 8 := rfl
@[simp] theorem Tryd.zero85 : Tryd.t85.zero = some (.nilFunc) := rfl
attribute [simp] Tryd.underlying85
@[simp] theorem Tryd.info86 : Tryd.prog.info? 86 = some Tryd.t86 := Tryd.type86
@[simp] theorem Tryd.size86 : Tryd.t86.size = 3 := rfl
@[simp] theorem Tryd.bytes86 : Tryd.t86.bytes = 24 := rfl
@[simp] theorem Tryd.zero86 : Tryd.t86.zero = some (.agg #[.int .i64 0, .int .i64 0, .int .i64 0]) := rfl
attribute [simp] Tryd.underlying86
@[simp] theorem Tryd.info87 : Tryd.prog.info? 87 = some Tryd.t87 := Tryd.type87
@[simp] theorem Tryd.size87 : Tryd.t87.size = 1 := rfl
@[simp] theorem Tryd.bytes87 : Tryd.t87.bytes = 8 := rfl
@[simp] theorem Tryd.zero87 : Tryd.t87.zero = some (.nilFunc) := rfl
attribute [simp] Tryd.underlying87
@[simp] theorem Tryd.info88 : Tryd.prog.info? 88 = some Tryd.t88 := Tryd.type88
@[simp] theorem Tryd.size88 : Tryd.t88.size = 2 := rfl
@[simp] theorem Tryd.bytes88 : Tryd.t88.bytes = 32 := rfl
@[simp] theorem Tryd.zero88 : Tryd.t88.zero = some (.agg #[.string ⟨#[]⟩, .string ⟨#[]⟩]) := rfl
attribute [simp] Tryd.underlying88
@[simp] theorem Tryd.info89 : Tryd.prog.info? 89 = some Tryd.t89 := Tryd.type89
@[simp] theorem Tryd.size89 : Tryd.t89.size = 2 := rfl
@[simp] theorem Tryd.bytes89 : Tryd.t89.bytes = 32 := rfl
@[simp] theorem Tryd.zero89 : Tryd.t89.zero = some (.agg #[.string ⟨#[]⟩, .string ⟨#[]⟩]) := rfl
attribute [simp] Tryd.underlying89
@[simp] theorem Tryd.info90 : Tryd.prog.info? 90 = some Tryd.t90 := Tryd.type90
@[simp] theorem Tryd.size90 : Tryd.t90.size = 36 := rfl
@[simp] theorem Tryd.bytes90 : Tryd.t90.bytes = 576 := rfl
@[simp] theorem Tryd.zero90 : Tryd.t90.zero = some (.agg #[.string ⟨#[]⟩, .string ⟨#[]⟩, .string ⟨#[]⟩, .string ⟨#[]⟩, .string ⟨#[]⟩, .string ⟨#[]⟩, .string ⟨#[]⟩, .string ⟨#[]⟩, .string ⟨#[]⟩, .string ⟨#[]⟩, .string ⟨#[]⟩, .string ⟨#[]⟩, .string ⟨#[]⟩, .string ⟨#[]⟩, .string ⟨#[]⟩, .string ⟨#[]⟩, .string ⟨#[]⟩, .string ⟨#[]⟩, .string ⟨#[]⟩, .string ⟨#[]⟩, .string ⟨#[]⟩, .string ⟨#[]⟩, .string ⟨#[]⟩, .string ⟨#[]⟩, .string ⟨#[]⟩, .string ⟨#[]⟩, .string ⟨#[]⟩, .string ⟨#[]⟩, .string ⟨#[]⟩, .string ⟨#[]⟩, .string ⟨#[]⟩, .string ⟨#[]⟩, .string ⟨#[]⟩, .string ⟨#[]⟩, .string ⟨#[]⟩, .string ⟨#[]⟩]) := rfl
attribute [simp] Tryd.underlying90
@[simp] theorem Tryd.info91 : Tryd.prog.info? 91 = some Tryd.t91 := Tryd.type91
@[simp] theorem Tryd.size91 : Tryd.t91.size = 1 := rfl
@[simp] theorem Tryd.bytes91 : Tryd.t91.bytes = 8 := rfl
@[simp] theorem Tryd.zero91 : Tryd.t91.zero = some (.nilFunc) := rfl
attribute [simp] Tryd.underlying91
@[simp] theorem Tryd.info92 : Tryd.prog.info? 92 = some Tryd.t92 := Tryd.type92
@[simp] theorem Tryd.size92 : Tryd.t92.size = 1 := rfl
@[simp] theorem Tryd.bytes92 : Tryd.t92.bytes = 24 := rfl
@[simp] theorem Tryd.zero92 : Tryd.t92.zero = some (.slice none 0 0) := rfl
attribute [simp] Tryd.underlying92
@[simp] theorem Tryd.info93 : Tryd.prog.info? 93 = some Tryd.t93 := Tryd.type93
@[simp] theorem Tryd.size93 : Tryd.t93.size = 1 := rfl
@[simp] theorem Tryd.bytes93 : Tryd.t93.bytes = 8 := rfl
@[simp] theorem Tryd.zero93 : Tryd.t93.zero = some (.nilFunc) := rfl
attribute [simp] Tryd.underlying93
@[simp] theorem Tryd.info94 : Tryd.prog.info? 94 = some Tryd.t94 := Tryd.type94
@[simp] theorem Tryd.size94 : Tryd.t94.size = 1 := rfl
@[simp] theorem Tryd.bytes94 : Tryd.t94.bytes = 8 := rfl
@[simp] theorem Tryd.zero94 : Tryd.t94.zero = some (.nilFunc) := rfl
attribute [simp] Tryd.underlying94
@[simp] theorem Tryd.info95 : Tryd.prog.info? 95 = some Tryd.t95 := Tryd.type95
@[simp] theorem Tryd.size95 : Tryd.t95.size = 1 := rfl
@[simp] theorem Tryd.bytes95 : Tryd.t95.bytes = 8 := rfl
@[simp] theorem Tryd.zero95 : Tryd.t95.zero = some (.nilFunc) := rfl
attribute [simp] Tryd.underlying95
@[simp] theorem Tryd.info96 : Tryd.prog.info? 96 = some Tryd.t96 := Tryd.type96
@[simp] theorem Tryd.size96 : Tryd.t96.size = 1 := rfl
@[simp] theorem Tryd.bytes96 : Tryd.t96.bytes = 4 := rfl
@[simp] theorem Tryd.zero96 : Tryd.t96.zero = some (.int .u32 0) := rfl
attribute [simp] Tryd.underlying96
@[simp] theorem Tryd.info97 : Tryd.prog.info? 97 = some Tryd.t97 := Tryd.type97
@[simp] theorem Tryd.size97 : Tryd.t97.size = 1 := rfl
@[simp] theorem Tryd.bytes97 : Tryd.t97.bytes = 0 := rfl
@[simp] theorem Tryd.zero97 : Tryd.t97.zero = some (.tuple #[.int .u32 0, .int .u32 0]) := rfl
attribute [simp] Tryd.underlying97
@[simp] theorem Tryd.info98 : Tryd.prog.info? 98 = some Tryd.t98 := Tryd.type98
@[simp] theorem Tryd.size98 : Tryd.t98.size = 1 := rfl
@[simp] theorem Tryd.bytes98 : Tryd.t98.bytes = 8 := rfl
@[simp] theorem Tryd.zero98 : Tryd.t98.zero = some (.nilFunc) := rfl
attribute [simp] Tryd.underlying98
@[simp] theorem Tryd.info99 : Tryd.prog.info? 99 = some Tryd.t99 := Tryd.type99
@[simp] theorem Tryd.size99 : Tryd.t99.size = 1 := rfl
@[simp] theorem Tryd.bytes99 : Tryd.t99.bytes = 8 := rfl
@[simp] theorem Tryd.zero99 : Tryd.t99.zero = some (.nilFunc) := rfl
attribute [simp] Tryd.underlying99
@[simp] theorem Tryd.info100 : Tryd.prog.info? 100 = some Tryd.t100 := Tryd.type100
@[simp] theorem Tryd.size100 : Tryd.t100.size = 4 := rfl
@[simp] theorem Tryd.bytes100 : Tryd.t100.bytes = 40 := rfl
@[simp] theorem Tryd.zero100 : Tryd.t100.zero = some (.agg #[.pointer none, .pointer none, .pointer none, .string ⟨#[]⟩]) := rfl
attribute [simp] Tryd.underlying100
@[simp] theorem Tryd.info101 : Tryd.prog.info? 101 = some Tryd.t101 := Tryd.type101
@[simp] theorem Tryd.size101 : Tryd.t101.size = 4 := rfl
@[simp] theorem Tryd.bytes101 : Tryd.t101.bytes = 40 := rfl
@[simp] theorem Tryd.zero101 : Tryd.t101.zero = some (.agg #[.pointer none, .pointer none, .pointer none, .string ⟨#[]⟩]) := rfl
attribute [simp] Tryd.underlying101
@[simp] theorem Tryd.info102 : Tryd.prog.info? 102 = some Tryd.t102 := Tryd.type102
@[simp] theorem Tryd.size102 : Tryd.t102.size = 0 := rfl
@[simp] theorem Tryd.bytes102 : Tryd.t102.bytes = 0 := rfl
@[simp] theorem Tryd.zero102 : Tryd.t102.zero = some (.agg #[]) := rfl
attribute [simp] Tryd.underlying102
@[simp] theorem Tryd.info103 : Tryd.prog.info? 103 = some Tryd.t103 := Tryd.type103
@[simp] theorem Tryd.size103 : Tryd.t103.size = 0 := rfl
@[simp] theorem Tryd.bytes103 : Tryd.t103.bytes = 0 := rfl
@[simp] theorem Tryd.zero103 : Tryd.t103.zero = some (.agg #[]) := rfl
attribute [simp] Tryd.underlying103
@[simp] theorem Tryd.info104 : Tryd.prog.info? 104 = some Tryd.t104 := Tryd.type104
@[simp] theorem Tryd.size104 : Tryd.t104.size = 0 := rfl
@[simp] theorem Tryd.bytes104 : Tryd.t104.bytes = 0 := rfl
@[simp] theorem Tryd.zero104 : Tryd.t104.zero = some (.agg #[]) := rfl
attribute [simp] Tryd.underlying104
@[simp] theorem Tryd.info105 : Tryd.prog.info? 105 = some Tryd.t105 := Tryd.type105
@[simp] theorem Tryd.size105 : Tryd.t105.size = 1 := rfl
@[simp] theorem Tryd.bytes105 : Tryd.t105.bytes = 8 := rfl
@[simp] theorem Tryd.zero105 : Tryd.t105.zero = some (.nilFunc) := rfl
attribute [simp] Tryd.underlying105
@[simp] theorem Tryd.info106 : Tryd.prog.info? 106 = some Tryd.t106 := Tryd.type106
@[simp] theorem Tryd.size106 : Tryd.t106.size = 1 := rfl
@[simp] theorem Tryd.bytes106 : Tryd.t106.bytes = 1 := rfl
@[simp] theorem Tryd.zero106 : Tryd.t106.zero = some (.int .u8 0) := rfl
attribute [simp] Tryd.underlying106
@[simp] theorem Tryd.info107 : Tryd.prog.info? 107 = some Tryd.t107 := Tryd.type107
@[simp] theorem Tryd.size107 : Tryd.t107.size = 1 := rfl
@[simp] theorem Tryd.bytes107 : Tryd.t107.bytes = 1 := rfl
@[simp] theorem Tryd.zero107 : Tryd.t107.zero = some (.int .u8 0) := rfl
attribute [simp] Tryd.underlying107
@[simp] theorem Tryd.info108 : Tryd.prog.info? 108 = some Tryd.t108 := Tryd.type108
@[simp] theorem Tryd.size108 : Tryd.t108.size = 1 := rfl
@[simp] theorem Tryd.bytes108 : Tryd.t108.bytes = 8 := rfl
@[simp] theorem Tryd.zero108 : Tryd.t108.zero = some (.nilFunc) := rfl
attribute [simp] Tryd.underlying108
@[simp] theorem Tryd.info109 : Tryd.prog.info? 109 = some Tryd.t109 := Tryd.type109
@[simp] theorem Tryd.size109 : Tryd.t109.size = 1 := rfl
@[simp] theorem Tryd.bytes109 : Tryd.t109.bytes = 8 := rfl
@[simp] theorem Tryd.zero109 : Tryd.t109.zero = some (.pointer none) := rfl
attribute [simp] Tryd.underlying109
@[simp] theorem Tryd.info110 : Tryd.prog.info? 110 = some Tryd.t110 := Tryd.type110
@[simp] theorem Tryd.size110 : Tryd.t110.size = 1 := rfl
@[simp] theorem Tryd.bytes110 : Tryd.t110.bytes = 4 := rfl
@[simp] theorem Tryd.zero110 : Tryd.t110.zero = some (.int .i32 0) := rfl
attribute [simp] Tryd.underlying110
@[simp] theorem Tryd.info111 : Tryd.prog.info? 111 = some Tryd.t111 := Tryd.type111
@[simp] theorem Tryd.size111 : Tryd.t111.size = 1 := rfl
@[simp] theorem Tryd.bytes111 : Tryd.t111.bytes = 4 := rfl
@[simp] theorem Tryd.zero111 : Tryd.t111.zero = some (.int .i32 0) := rfl
attribute [simp] Tryd.underlying111
@[simp] theorem Tryd.info112 : Tryd.prog.info? 112 = some Tryd.t112 := Tryd.type112
@[simp] theorem Tryd.size112 : Tryd.t112.size = 11 := rfl
@[simp] theorem Tryd.bytes112 : Tryd.t112.bytes = 48 := rfl
@[simp] theorem Tryd.zero112 : Tryd.t112.zero = some (.agg #[.int .u64 0, .int .u64 0, .int .u32 0, .int .u8 0, .int .u8 0, .int .u8 0, .int .u8 0, .nilFunc, .pointer none, .int .i32 0, .int .i32 0]) := rfl
attribute [simp] Tryd.underlying112
@[simp] theorem Tryd.info113 : Tryd.prog.info? 113 = some Tryd.t113 := Tryd.type113
@[simp] theorem Tryd.size113 : Tryd.t113.size = 11 := rfl
@[simp] theorem Tryd.bytes113 : Tryd.t113.bytes = 48 := rfl
@[simp] theorem Tryd.zero113 : Tryd.t113.zero = some (.agg #[.int .u64 0, .int .u64 0, .int .u32 0, .int .u8 0, .int .u8 0, .int .u8 0, .int .u8 0, .nilFunc, .pointer none, .int .i32 0, .int .i32 0]) := rfl
attribute [simp] Tryd.underlying113
@[simp] theorem Tryd.info114 : Tryd.prog.info? 114 = some Tryd.t114 := Tryd.type114
@[simp] theorem Tryd.size114 : Tryd.t114.size = 1 := rfl
@[simp] theorem Tryd.bytes114 : Tryd.t114.bytes = 8 := rfl
@[simp] theorem Tryd.zero114 : Tryd.t114.zero = some (.pointer none) := rfl
attribute [simp] Tryd.underlying114
attribute [simp] Tryd.results0
attribute [simp] Tryd.results1
attribute [simp] Tryd.results2
attribute [simp] Tryd.results3
attribute [simp] Tryd.results4
attribute [simp] Tryd.results5
attribute [simp] Tryd.results6
attribute [simp] Tryd.results7
attribute [simp] Tryd.results8
attribute [simp] Tryd.results9
attribute [simp] Tryd.results10
attribute [simp] Tryd.results11
attribute [simp] Tryd.results12
attribute [simp] Tryd.results13
attribute [simp] Tryd.results14
attribute [simp] Tryd.results15
attribute [simp] Tryd.results16
attribute [simp] Tryd.results17
attribute [simp] Tryd.results18
attribute [simp] Tryd.results19
attribute [simp] Tryd.results20
attribute [simp] Tryd.results21
attribute [simp] Tryd.results22
attribute [simp] Tryd.results23
attribute [simp] Tryd.results24
attribute [simp] Tryd.results25
attribute [simp] Tryd.results26
attribute [simp] Tryd.results27
attribute [simp] Tryd.results28
attribute [simp] Tryd.results29
attribute [simp] Tryd.results30
attribute [simp] Tryd.results31
attribute [simp] Tryd.results32
attribute [simp] Tryd.results33
attribute [simp] Tryd.results34
attribute [simp] Tryd.results35
attribute [simp] Tryd.results36
attribute [simp] Tryd.results37
attribute [simp] Tryd.results38
attribute [simp] Tryd.results39
attribute [simp] Tryd.results40
attribute [simp] Tryd.results41
attribute [simp] Tryd.results42
attribute [simp] Tryd.results43
attribute [simp] Tryd.results44
attribute [simp] Tryd.results45
attribute [simp] Tryd.results46
attribute [simp] Tryd.results47
attribute [simp] Tryd.results48
attribute [simp] Tryd.results49
attribute [simp] Tryd.results50
attribute [simp] Tryd.results51
attribute [simp] Tryd.results52
attribute [simp] Tryd.results53
attribute [simp] Tryd.results54
attribute [simp] Tryd.results55
attribute [simp] Tryd.results56
attribute [simp] Tryd.results57
attribute [simp] Tryd.results58
attribute [simp] Tryd.results59
attribute [simp] Tryd.results60
attribute [simp] Tryd.results61
attribute [simp] Tryd.results62
attribute [simp] Tryd.results63
attribute [simp] Tryd.results64
attribute [simp] Tryd.results65
attribute [simp] Tryd.results66
attribute [simp] Tryd.results67
attribute [simp] Tryd.results68
attribute [simp] Tryd.results69
attribute [simp] Tryd.results70
attribute [simp] Tryd.results71
attribute [simp] Tryd.results72
attribute [simp] Tryd.results73
attribute [simp] Tryd.results74
attribute [simp] Tryd.results75
attribute [simp] Tryd.results76
attribute [simp] Tryd.results77
attribute [simp] Tryd.results78
attribute [simp] Tryd.results79
attribute [simp] Tryd.results80
attribute [simp] Tryd.results81
attribute [simp] Tryd.results82
attribute [simp] Tryd.results83
attribute [simp] Tryd.results84
attribute [simp] Tryd.results85
attribute [simp] Tryd.results86
theorem Tryd.mx : Tryd.prog.follows .mixedOrders = true := by kernel_rfl
end Go.Proofs
