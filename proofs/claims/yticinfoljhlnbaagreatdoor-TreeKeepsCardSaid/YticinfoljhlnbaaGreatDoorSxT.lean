/-
  Closed facts on this program's functions and types.
-/
import Derived.Test.YticinfoljhlnbaaGreatDoorProg
import Derived.Test.YticinfoljhlnbaaGreatDoorSxEq
namespace Go.Proofs.YticinfoljhlnbaaGreatDoor
open Go.Sx
theorem go3 : GoFn Tryz.prog 3 := ⟨Tryz.f3, Tryz.func3, rfl, by kernel_rfl⟩
theorem go4 : GoFn Tryz.prog 4 := ⟨Tryz.f4, Tryz.func4, rfl, by kernel_rfl⟩
theorem go5 : GoFn Tryz.prog 5 := ⟨Tryz.f5, Tryz.func5, rfl, by kernel_rfl⟩
theorem go6 : GoFn Tryz.prog 6 := ⟨Tryz.f6, Tryz.func6, rfl, by kernel_rfl⟩
theorem go7 : GoFn Tryz.prog 7 := ⟨Tryz.f7, Tryz.func7, rfl, by kernel_rfl⟩
theorem go8 : GoFn Tryz.prog 8 := ⟨Tryz.f8, Tryz.func8, rfl, by kernel_rfl⟩
theorem go9 : GoFn Tryz.prog 9 := ⟨Tryz.f9, Tryz.func9, rfl, by kernel_rfl⟩
theorem go10 : GoFn Tryz.prog 10 := ⟨Tryz.f10, Tryz.func10, rfl, by kernel_rfl⟩
theorem go11 : GoFn Tryz.prog 11 := ⟨Tryz.f11, Tryz.func11, rfl, by kernel_rfl⟩
theorem go12 : GoFn Tryz.prog 12 := ⟨Tryz.f12, Tryz.func12, rfl, by kernel_rfl⟩
theorem go13 : GoFn Tryz.prog 13 := ⟨Tryz.f13, Tryz.func13, rfl, by kernel_rfl⟩
theorem go14 : GoFn Tryz.prog 14 := ⟨Tryz.f14, Tryz.func14, rfl, by kernel_rfl⟩
theorem go15 : GoFn Tryz.prog 15 := ⟨Tryz.f15, Tryz.func15, rfl, by kernel_rfl⟩
theorem go16 : GoFn Tryz.prog 16 := ⟨Tryz.f16, Tryz.func16, rfl, by kernel_rfl⟩
theorem go17 : GoFn Tryz.prog 17 := ⟨Tryz.f17, Tryz.func17, rfl, by kernel_rfl⟩
theorem go18 : GoFn Tryz.prog 18 := ⟨Tryz.f18, Tryz.func18, rfl, by kernel_rfl⟩
theorem go19 : GoFn Tryz.prog 19 := ⟨Tryz.f19, Tryz.func19, rfl, by kernel_rfl⟩
theorem go20 : GoFn Tryz.prog 20 := ⟨Tryz.f20, Tryz.func20, rfl, by kernel_rfl⟩
theorem go21 : GoFn Tryz.prog 21 := ⟨Tryz.f21, Tryz.func21, rfl, by kernel_rfl⟩
theorem go22 : GoFn Tryz.prog 22 := ⟨Tryz.f22, Tryz.func22, rfl, by kernel_rfl⟩
theorem go23 : GoFn Tryz.prog 23 := ⟨Tryz.f23, Tryz.func23, rfl, by kernel_rfl⟩
theorem go24 : GoFn Tryz.prog 24 := ⟨Tryz.f24, Tryz.func24, rfl, by kernel_rfl⟩
theorem go25 : GoFn Tryz.prog 25 := ⟨Tryz.f25, Tryz.func25, rfl, by kernel_rfl⟩
theorem go26 : GoFn Tryz.prog 26 := ⟨Tryz.f26, Tryz.func26, rfl, by kernel_rfl⟩
theorem go27 : GoFn Tryz.prog 27 := ⟨Tryz.f27, Tryz.func27, rfl, by kernel_rfl⟩
theorem go28 : GoFn Tryz.prog 28 := ⟨Tryz.f28, Tryz.func28, rfl, by kernel_rfl⟩
theorem go29 : GoFn Tryz.prog 29 := ⟨Tryz.f29, Tryz.func29, rfl, by kernel_rfl⟩
theorem go30 : GoFn Tryz.prog 30 := ⟨Tryz.f30, Tryz.func30, rfl, by kernel_rfl⟩
theorem go31 : GoFn Tryz.prog 31 := ⟨Tryz.f31, Tryz.func31, rfl, by kernel_rfl⟩
theorem go32 : GoFn Tryz.prog 32 := ⟨Tryz.f32, Tryz.func32, rfl, by kernel_rfl⟩
theorem go33 : GoFn Tryz.prog 33 := ⟨Tryz.f33, Tryz.func33, rfl, by kernel_rfl⟩
theorem go34 : GoFn Tryz.prog 34 := ⟨Tryz.f34, Tryz.func34, rfl, by kernel_rfl⟩
theorem go35 : GoFn Tryz.prog 35 := ⟨Tryz.f35, Tryz.func35, rfl, by kernel_rfl⟩
theorem go36 : GoFn Tryz.prog 36 := ⟨Tryz.f36, Tryz.func36, rfl, by kernel_rfl⟩
theorem go37 : GoFn Tryz.prog 37 := ⟨Tryz.f37, Tryz.func37, rfl, by kernel_rfl⟩
theorem go38 : GoFn Tryz.prog 38 := ⟨Tryz.f38, Tryz.func38, rfl, by kernel_rfl⟩
theorem go39 : GoFn Tryz.prog 39 := ⟨Tryz.f39, Tryz.func39, rfl, by kernel_rfl⟩
theorem go40 : GoFn Tryz.prog 40 := ⟨Tryz.f40, Tryz.func40, rfl, by kernel_rfl⟩
theorem go41 : GoFn Tryz.prog 41 := ⟨Tryz.f41, Tryz.func41, rfl, by kernel_rfl⟩
theorem go42 : GoFn Tryz.prog 42 := ⟨Tryz.f42, Tryz.func42, rfl, by kernel_rfl⟩
theorem go43 : GoFn Tryz.prog 43 := ⟨Tryz.f43, Tryz.func43, rfl, by kernel_rfl⟩
theorem go44 : GoFn Tryz.prog 44 := ⟨Tryz.f44, Tryz.func44, rfl, by kernel_rfl⟩
theorem go45 : GoFn Tryz.prog 45 := ⟨Tryz.f45, Tryz.func45, rfl, by kernel_rfl⟩
theorem go46 : GoFn Tryz.prog 46 := ⟨Tryz.f46, Tryz.func46, rfl, by kernel_rfl⟩
theorem go47 : GoFn Tryz.prog 47 := ⟨Tryz.f47, Tryz.func47, rfl, by kernel_rfl⟩
theorem go48 : GoFn Tryz.prog 48 := ⟨Tryz.f48, Tryz.func48, rfl, by kernel_rfl⟩
theorem go49 : GoFn Tryz.prog 49 := ⟨Tryz.f49, Tryz.func49, rfl, by kernel_rfl⟩
theorem go50 : GoFn Tryz.prog 50 := ⟨Tryz.f50, Tryz.func50, rfl, by kernel_rfl⟩
theorem go51 : GoFn Tryz.prog 51 := ⟨Tryz.f51, Tryz.func51, rfl, by kernel_rfl⟩
theorem go52 : GoFn Tryz.prog 52 := ⟨Tryz.f52, Tryz.func52, rfl, by kernel_rfl⟩
theorem go53 : GoFn Tryz.prog 53 := ⟨Tryz.f53, Tryz.func53, rfl, by kernel_rfl⟩
theorem go54 : GoFn Tryz.prog 54 := ⟨Tryz.f54, Tryz.func54, rfl, by kernel_rfl⟩
theorem go55 : GoFn Tryz.prog 55 := ⟨Tryz.f55, Tryz.func55, rfl, by kernel_rfl⟩
theorem go56 : GoFn Tryz.prog 56 := ⟨Tryz.f56, Tryz.func56, rfl, by kernel_rfl⟩
theorem go57 : GoFn Tryz.prog 57 := ⟨Tryz.f57, Tryz.func57, rfl, by kernel_rfl⟩
theorem go58 : GoFn Tryz.prog 58 := ⟨Tryz.f58, Tryz.func58, rfl, by kernel_rfl⟩
theorem go59 : GoFn Tryz.prog 59 := ⟨Tryz.f59, Tryz.func59, rfl, by kernel_rfl⟩
theorem go60 : GoFn Tryz.prog 60 := ⟨Tryz.f60, Tryz.func60, rfl, by kernel_rfl⟩
theorem go61 : GoFn Tryz.prog 61 := ⟨Tryz.f61, Tryz.func61, rfl, by kernel_rfl⟩
theorem go62 : GoFn Tryz.prog 62 := ⟨Tryz.f62, Tryz.func62, rfl, by kernel_rfl⟩
theorem go63 : GoFn Tryz.prog 63 := ⟨Tryz.f63, Tryz.func63, rfl, by kernel_rfl⟩
theorem go64 : GoFn Tryz.prog 64 := ⟨Tryz.f64, Tryz.func64, rfl, by kernel_rfl⟩
theorem go65 : GoFn Tryz.prog 65 := ⟨Tryz.f65, Tryz.func65, rfl, by kernel_rfl⟩
theorem go66 : GoFn Tryz.prog 66 := ⟨Tryz.f66, Tryz.func66, rfl, by kernel_rfl⟩
theorem go67 : GoFn Tryz.prog 67 := ⟨Tryz.f67, Tryz.func67, rfl, by kernel_rfl⟩
theorem go71 : GoFn Tryz.prog 71 := ⟨Tryz.f71, Tryz.func71, rfl, by kernel_rfl⟩
theorem go72 : GoFn Tryz.prog 72 := ⟨Tryz.f72, Tryz.func72, rfl, by kernel_rfl⟩
theorem go73 : GoFn Tryz.prog 73 := ⟨Tryz.f73, Tryz.func73, rfl, by kernel_rfl⟩
theorem go74 : GoFn Tryz.prog 74 := ⟨Tryz.f74, Tryz.func74, rfl, by kernel_rfl⟩
theorem go75 : GoFn Tryz.prog 75 := ⟨Tryz.f75, Tryz.func75, rfl, by kernel_rfl⟩
theorem go76 : GoFn Tryz.prog 76 := ⟨Tryz.f76, Tryz.func76, rfl, by kernel_rfl⟩
theorem go77 : GoFn Tryz.prog 77 := ⟨Tryz.f77, Tryz.func77, rfl, by kernel_rfl⟩
theorem go82 : GoFn Tryz.prog 82 := ⟨Tryz.f82, Tryz.func82, rfl, by kernel_rfl⟩
theorem go83 : GoFn Tryz.prog 83 := ⟨Tryz.f83, Tryz.func83, rfl, by kernel_rfl⟩
theorem go84 : GoFn Tryz.prog 84 := ⟨Tryz.f84, Tryz.func84, rfl, by kernel_rfl⟩
theorem go85 : GoFn Tryz.prog 85 := ⟨Tryz.f85, Tryz.func85, rfl, by kernel_rfl⟩
theorem go86 : GoFn Tryz.prog 86 := ⟨Tryz.f86, Tryz.func86, rfl, by kernel_rfl⟩
theorem go87 : GoFn Tryz.prog 87 := ⟨Tryz.f87, Tryz.func87, rfl, by kernel_rfl⟩
theorem go88 : GoFn Tryz.prog 88 := ⟨Tryz.f88, Tryz.func88, rfl, by kernel_rfl⟩
theorem go89 : GoFn Tryz.prog 89 := ⟨Tryz.f89, Tryz.func89, rfl, by kernel_rfl⟩
theorem go90 : GoFn Tryz.prog 90 := ⟨Tryz.f90, Tryz.func90, rfl, by kernel_rfl⟩
theorem go91 : GoFn Tryz.prog 91 := ⟨Tryz.f91, Tryz.func91, rfl, by kernel_rfl⟩
theorem go92 : GoFn Tryz.prog 92 := ⟨Tryz.f92, Tryz.func92, rfl, by kernel_rfl⟩
theorem go93 : GoFn Tryz.prog 93 := ⟨Tryz.f93, Tryz.func93, rfl, by kernel_rfl⟩
theorem go94 : GoFn Tryz.prog 94 := ⟨Tryz.f94, Tryz.func94, rfl, by kernel_rfl⟩
theorem go95 : GoFn Tryz.prog 95 := ⟨Tryz.f95, Tryz.func95, rfl, by kernel_rfl⟩
theorem go96 : GoFn Tryz.prog 96 := ⟨Tryz.f96, Tryz.func96, rfl, by kernel_rfl⟩
theorem go97 : GoFn Tryz.prog 97 := ⟨Tryz.f97, Tryz.func97, rfl, by kernel_rfl⟩
theorem go98 : GoFn Tryz.prog 98 := ⟨Tryz.f98, Tryz.func98, rfl, by kernel_rfl⟩
theorem go99 : GoFn Tryz.prog 99 := ⟨Tryz.f99, Tryz.func99, rfl, by kernel_rfl⟩
theorem go101 : GoFn Tryz.prog 101 := ⟨Tryz.f101, Tryz.func101, rfl, by kernel_rfl⟩
theorem go121 : GoFn Tryz.prog 121 := ⟨Tryz.f121, Tryz.func121, rfl, by kernel_rfl⟩
theorem ext100 : ExtFn Tryz.prog 100 Extern.BytealgIndexByte.indexByte := ⟨Tryz.f100, Tryz.func100, by kernel_rfl, by kernel_rfl, by kernel_rfl, by kernel_rfl⟩
theorem zv0 : zeroV Tryz.prog 0 = some (.tuple #[]) := by kernel_rfl
theorem sz1 : psize? Tryz.prog 1 = some 1 := by kernel_rfl
theorem pb1 : pbytes? Tryz.prog 1 = some 8 := by kernel_rfl
theorem zv1 : zeroV Tryz.prog 1 = some .nilFunc := by kernel_rfl
theorem sz2 : psize? Tryz.prog 2 = some 1 := by kernel_rfl
theorem pb2 : pbytes? Tryz.prog 2 = some 8 := by kernel_rfl
theorem zv2 : zeroV Tryz.prog 2 = some (.int .i64 0) := by kernel_rfl
theorem sz3 : psize? Tryz.prog 3 = some 1 := by kernel_rfl
theorem pb3 : pbytes? Tryz.prog 3 = some 8 := by kernel_rfl
theorem zv3 : zeroV Tryz.prog 3 = some (.int .i64 0) := by kernel_rfl
theorem sz4 : psize? Tryz.prog 4 = some 1 := by kernel_rfl
theorem pb4 : pbytes? Tryz.prog 4 = some 1 := by kernel_rfl
theorem zv4 : zeroV Tryz.prog 4 = some (.bool false) := by kernel_rfl
theorem sz5 : psize? Tryz.prog 5 = some 1 := by kernel_rfl
theorem pb5 : pbytes? Tryz.prog 5 = some 1 := by kernel_rfl
theorem zv5 : zeroV Tryz.prog 5 = some (.int .u8 0) := by kernel_rfl
theorem sz6 : psize? Tryz.prog 6 = some 1 := by kernel_rfl
theorem pb6 : pbytes? Tryz.prog 6 = some 1 := by kernel_rfl
theorem zv6 : zeroV Tryz.prog 6 = some (.int .u8 0) := by kernel_rfl
theorem sz7 : psize? Tryz.prog 7 = some 4 := by kernel_rfl
theorem pb7 : pbytes? Tryz.prog 7 = some 24 := by kernel_rfl
theorem zv7 : zeroV Tryz.prog 7 = some (.agg #[.int .i64 0, .int .i64 0, .bool false, .int .u8 0]) := by kernel_rfl
theorem sz8 : psize? Tryz.prog 8 = some 4 := by kernel_rfl
theorem pb8 : pbytes? Tryz.prog 8 = some 24 := by kernel_rfl
theorem zv8 : zeroV Tryz.prog 8 = some (.agg #[.int .i64 0, .int .i64 0, .bool false, .int .u8 0]) := by kernel_rfl
theorem sz9 : psize? Tryz.prog 9 = some 1 := by kernel_rfl
theorem pb9 : pbytes? Tryz.prog 9 = some 16 := by kernel_rfl
theorem zv9 : zeroV Tryz.prog 9 = some (.string ⟨#[]⟩) := by kernel_rfl
theorem sz10 : psize? Tryz.prog 10 = some 1 := by kernel_rfl
theorem pb10 : pbytes? Tryz.prog 10 = some 16 := by kernel_rfl
theorem zv10 : zeroV Tryz.prog 10 = some (.string ⟨#[]⟩) := by kernel_rfl
theorem sz11 : psize? Tryz.prog 11 = some 1 := by kernel_rfl
theorem pb11 : pbytes? Tryz.prog 11 = some 16 := by kernel_rfl
theorem zv11 : zeroV Tryz.prog 11 = some (.string ⟨#[]⟩) := by kernel_rfl
theorem sz12 : psize? Tryz.prog 12 = some 1 := by kernel_rfl
theorem pb12 : pbytes? Tryz.prog 12 = some 8 := by kernel_rfl
theorem zv12 : zeroV Tryz.prog 12 = some (.int .u64 0) := by kernel_rfl
theorem sz13 : psize? Tryz.prog 13 = some 2 := by kernel_rfl
theorem pb13 : pbytes? Tryz.prog 13 = some 24 := by kernel_rfl
theorem zv13 : zeroV Tryz.prog 13 = some (.agg #[.string ⟨#[]⟩, .int .u64 0]) := by kernel_rfl
theorem sz14 : psize? Tryz.prog 14 = some 2 := by kernel_rfl
theorem pb14 : pbytes? Tryz.prog 14 = some 24 := by kernel_rfl
theorem zv14 : zeroV Tryz.prog 14 = some (.agg #[.string ⟨#[]⟩, .int .u64 0]) := by kernel_rfl
theorem sz15 : psize? Tryz.prog 15 = some 1 := by kernel_rfl
theorem pb15 : pbytes? Tryz.prog 15 = some 8 := by kernel_rfl
theorem zv15 : zeroV Tryz.prog 15 = some (.pointer none) := by kernel_rfl
theorem sz16 : psize? Tryz.prog 16 = some 1 := by kernel_rfl
theorem pb16 : pbytes? Tryz.prog 16 = some 8 := by kernel_rfl
theorem zv16 : zeroV Tryz.prog 16 = some (.pointer none) := by kernel_rfl
theorem sz17 : psize? Tryz.prog 17 = some 1 := by kernel_rfl
theorem pb17 : pbytes? Tryz.prog 17 = some 8 := by kernel_rfl
theorem zv17 : zeroV Tryz.prog 17 = some (.pointer none) := by kernel_rfl
theorem sz18 : psize? Tryz.prog 18 = some 1 := by kernel_rfl
theorem pb18 : pbytes? Tryz.prog 18 = some 8 := by kernel_rfl
theorem zv18 : zeroV Tryz.prog 18 = some (.agg #[.pointer none]) := by kernel_rfl
theorem sz19 : psize? Tryz.prog 19 = some 1 := by kernel_rfl
theorem pb19 : pbytes? Tryz.prog 19 = some 8 := by kernel_rfl
theorem zv19 : zeroV Tryz.prog 19 = some (.agg #[.pointer none]) := by kernel_rfl
theorem sz20 : psize? Tryz.prog 20 = some 1 := by kernel_rfl
theorem pb20 : pbytes? Tryz.prog 20 = some 16 := by kernel_rfl
theorem zv20 : zeroV Tryz.prog 20 = some .nilIface := by kernel_rfl
theorem sz21 : psize? Tryz.prog 21 = some 1 := by kernel_rfl
theorem pb21 : pbytes? Tryz.prog 21 = some 4 := by kernel_rfl
theorem zv21 : zeroV Tryz.prog 21 = some (.int .i32 0) := by kernel_rfl
theorem sz22 : psize? Tryz.prog 22 = some 1 := by kernel_rfl
theorem pb22 : pbytes? Tryz.prog 22 = some 24 := by kernel_rfl
theorem zv22 : zeroV Tryz.prog 22 = some (.slice none 0 0) := by kernel_rfl
theorem sz23 : psize? Tryz.prog 23 = some 1 := by kernel_rfl
theorem pb23 : pbytes? Tryz.prog 23 = some 24 := by kernel_rfl
theorem zv23 : zeroV Tryz.prog 23 = some (.slice none 0 0) := by kernel_rfl
theorem sz24 : psize? Tryz.prog 24 = some 1 := by kernel_rfl
theorem pb24 : pbytes? Tryz.prog 24 = some 8 := by kernel_rfl
theorem zv24 : zeroV Tryz.prog 24 = some .nilFunc := by kernel_rfl
theorem sz25 : psize? Tryz.prog 25 = some 1 := by kernel_rfl
theorem pb25 : pbytes? Tryz.prog 25 = some 8 := by kernel_rfl
theorem zv25 : zeroV Tryz.prog 25 = some .nilFunc := by kernel_rfl
theorem sz26 : psize? Tryz.prog 26 = some 1 := by kernel_rfl
theorem pb26 : pbytes? Tryz.prog 26 = some 8 := by kernel_rfl
theorem zv26 : zeroV Tryz.prog 26 = some (.pointer none) := by kernel_rfl
theorem sz27 : psize? Tryz.prog 27 = some 1 := by kernel_rfl
theorem pb27 : pbytes? Tryz.prog 27 = some 16 := by kernel_rfl
theorem zv27 : zeroV Tryz.prog 27 = some .nilIface := by kernel_rfl
theorem sz28 : psize? Tryz.prog 28 = some 1 := by kernel_rfl
theorem pb28 : pbytes? Tryz.prog 28 = some 16 := by kernel_rfl
theorem zv28 : zeroV Tryz.prog 28 = some .nilIface := by kernel_rfl
theorem zv29 : zeroV Tryz.prog 29 = some (.tuple #[.pointer none, .nilIface]) := by kernel_rfl
theorem sz30 : psize? Tryz.prog 30 = some 1 := by kernel_rfl
theorem pb30 : pbytes? Tryz.prog 30 = some 8 := by kernel_rfl
theorem zv30 : zeroV Tryz.prog 30 = some .nilFunc := by kernel_rfl
theorem sz31 : psize? Tryz.prog 31 = some 1 := by kernel_rfl
theorem pb31 : pbytes? Tryz.prog 31 = some 8 := by kernel_rfl
theorem zv31 : zeroV Tryz.prog 31 = some .nilFunc := by kernel_rfl
theorem sz32 : psize? Tryz.prog 32 = some 1 := by kernel_rfl
theorem pb32 : pbytes? Tryz.prog 32 = some 8 := by kernel_rfl
theorem zv32 : zeroV Tryz.prog 32 = some .nilFunc := by kernel_rfl
theorem sz33 : psize? Tryz.prog 33 = some 1 := by kernel_rfl
theorem pb33 : pbytes? Tryz.prog 33 = some 8 := by kernel_rfl
theorem zv33 : zeroV Tryz.prog 33 = some .nilFunc := by kernel_rfl
theorem sz34 : psize? Tryz.prog 34 = some 1 := by kernel_rfl
theorem pb34 : pbytes? Tryz.prog 34 = some 8 := by kernel_rfl
theorem zv34 : zeroV Tryz.prog 34 = some .nilFunc := by kernel_rfl
theorem sz35 : psize? Tryz.prog 35 = some 1 := by kernel_rfl
theorem pb35 : pbytes? Tryz.prog 35 = some 24 := by kernel_rfl
theorem zv35 : zeroV Tryz.prog 35 = some (.slice none 0 0) := by kernel_rfl
theorem sz36 : psize? Tryz.prog 36 = some 1 := by kernel_rfl
theorem pb36 : pbytes? Tryz.prog 36 = some 8 := by kernel_rfl
theorem zv36 : zeroV Tryz.prog 36 = some .nilFunc := by kernel_rfl
theorem sz37 : psize? Tryz.prog 37 = some 1 := by kernel_rfl
theorem pb37 : pbytes? Tryz.prog 37 = some 24 := by kernel_rfl
theorem zv37 : zeroV Tryz.prog 37 = some (.slice none 0 0) := by kernel_rfl
theorem sz38 : psize? Tryz.prog 38 = some 4 := by kernel_rfl
theorem pb38 : pbytes? Tryz.prog 38 = some 72 := by kernel_rfl
theorem zv38 : zeroV Tryz.prog 38 = some (.agg #[.slice none 0 0, .bool false, .string ⟨#[]⟩, .slice none 0 0]) := by kernel_rfl
theorem sz39 : psize? Tryz.prog 39 = some 4 := by kernel_rfl
theorem pb39 : pbytes? Tryz.prog 39 = some 72 := by kernel_rfl
theorem zv39 : zeroV Tryz.prog 39 = some (.agg #[.slice none 0 0, .bool false, .string ⟨#[]⟩, .slice none 0 0]) := by kernel_rfl
theorem zv40 : zeroV Tryz.prog 40 = some (.tuple #[.agg #[.slice none 0 0, .bool false, .string ⟨#[]⟩, .slice none 0 0], .bool false]) := by kernel_rfl
theorem sz41 : psize? Tryz.prog 41 = some 1 := by kernel_rfl
theorem pb41 : pbytes? Tryz.prog 41 = some 8 := by kernel_rfl
theorem zv41 : zeroV Tryz.prog 41 = some .nilFunc := by kernel_rfl
theorem sz42 : psize? Tryz.prog 42 = some 1 := by kernel_rfl
theorem pb42 : pbytes? Tryz.prog 42 = some 8 := by kernel_rfl
theorem zv42 : zeroV Tryz.prog 42 = some .nilFunc := by kernel_rfl
theorem sz43 : psize? Tryz.prog 43 = some 1 := by kernel_rfl
theorem pb43 : pbytes? Tryz.prog 43 = some 8 := by kernel_rfl
theorem zv43 : zeroV Tryz.prog 43 = some .nilFunc := by kernel_rfl
theorem sz44 : psize? Tryz.prog 44 = some 1 := by kernel_rfl
theorem pb44 : pbytes? Tryz.prog 44 = some 8 := by kernel_rfl
theorem zv44 : zeroV Tryz.prog 44 = some .nilFunc := by kernel_rfl
theorem sz45 : psize? Tryz.prog 45 = some 1 := by kernel_rfl
theorem pb45 : pbytes? Tryz.prog 45 = some 8 := by kernel_rfl
theorem zv45 : zeroV Tryz.prog 45 = some .nilFunc := by kernel_rfl
theorem sz46 : psize? Tryz.prog 46 = some 1 := by kernel_rfl
theorem pb46 : pbytes? Tryz.prog 46 = some 8 := by kernel_rfl
theorem zv46 : zeroV Tryz.prog 46 = some .nilFunc := by kernel_rfl
theorem sz47 : psize? Tryz.prog 47 = some 1 := by kernel_rfl
theorem pb47 : pbytes? Tryz.prog 47 = some 8 := by kernel_rfl
theorem zv47 : zeroV Tryz.prog 47 = some .nilFunc := by kernel_rfl
theorem sz48 : psize? Tryz.prog 48 = some 1 := by kernel_rfl
theorem pb48 : pbytes? Tryz.prog 48 = some 8 := by kernel_rfl
theorem zv48 : zeroV Tryz.prog 48 = some .nilFunc := by kernel_rfl
theorem sz49 : psize? Tryz.prog 49 = some 1 := by kernel_rfl
theorem pb49 : pbytes? Tryz.prog 49 = some 8 := by kernel_rfl
theorem zv49 : zeroV Tryz.prog 49 = some .nilFunc := by kernel_rfl
theorem sz50 : psize? Tryz.prog 50 = some 1 := by kernel_rfl
theorem pb50 : pbytes? Tryz.prog 50 = some 8 := by kernel_rfl
theorem zv50 : zeroV Tryz.prog 50 = some .nilFunc := by kernel_rfl
theorem sz51 : psize? Tryz.prog 51 = some 1 := by kernel_rfl
theorem pb51 : pbytes? Tryz.prog 51 = some 8 := by kernel_rfl
theorem zv51 : zeroV Tryz.prog 51 = some .nilFunc := by kernel_rfl
theorem sz52 : psize? Tryz.prog 52 = some 1 := by kernel_rfl
theorem pb52 : pbytes? Tryz.prog 52 = some 8 := by kernel_rfl
theorem zv52 : zeroV Tryz.prog 52 = some .nilFunc := by kernel_rfl
theorem sz53 : psize? Tryz.prog 53 = some 1 := by kernel_rfl
theorem pb53 : pbytes? Tryz.prog 53 = some 8 := by kernel_rfl
theorem zv53 : zeroV Tryz.prog 53 = some (.pointer none) := by kernel_rfl
theorem sz54 : psize? Tryz.prog 54 = some 1 := by kernel_rfl
theorem pb54 : pbytes? Tryz.prog 54 = some 8 := by kernel_rfl
theorem zv54 : zeroV Tryz.prog 54 = some (.map none) := by kernel_rfl
theorem sz55 : psize? Tryz.prog 55 = some 1 := by kernel_rfl
theorem pb55 : pbytes? Tryz.prog 55 = some 8 := by kernel_rfl
theorem zv55 : zeroV Tryz.prog 55 = some (.pointer none) := by kernel_rfl
theorem sz56 : psize? Tryz.prog 56 = some 2 := by kernel_rfl
theorem pb56 : pbytes? Tryz.prog 56 = some 16 := by kernel_rfl
theorem zv56 : zeroV Tryz.prog 56 = some (.agg #[.map none, .pointer none]) := by kernel_rfl
theorem sz57 : psize? Tryz.prog 57 = some 2 := by kernel_rfl
theorem pb57 : pbytes? Tryz.prog 57 = some 16 := by kernel_rfl
theorem zv57 : zeroV Tryz.prog 57 = some (.agg #[.map none, .pointer none]) := by kernel_rfl
theorem sz58 : psize? Tryz.prog 58 = some 2 := by kernel_rfl
theorem pb58 : pbytes? Tryz.prog 58 = some 32 := by kernel_rfl
theorem zv58 : zeroV Tryz.prog 58 = some (.agg #[.pointer none, .slice none 0 0]) := by kernel_rfl
theorem sz59 : psize? Tryz.prog 59 = some 2 := by kernel_rfl
theorem pb59 : pbytes? Tryz.prog 59 = some 32 := by kernel_rfl
theorem zv59 : zeroV Tryz.prog 59 = some (.agg #[.pointer none, .slice none 0 0]) := by kernel_rfl
theorem sz60 : psize? Tryz.prog 60 = some 1 := by kernel_rfl
theorem pb60 : pbytes? Tryz.prog 60 = some 8 := by kernel_rfl
theorem zv60 : zeroV Tryz.prog 60 = some .nilFunc := by kernel_rfl
theorem sz61 : psize? Tryz.prog 61 = some 1 := by kernel_rfl
theorem pb61 : pbytes? Tryz.prog 61 = some 8 := by kernel_rfl
theorem zv61 : zeroV Tryz.prog 61 = some .nilFunc := by kernel_rfl
theorem sz62 : psize? Tryz.prog 62 = some 1 := by kernel_rfl
theorem pb62 : pbytes? Tryz.prog 62 = some 8 := by kernel_rfl
theorem zv62 : zeroV Tryz.prog 62 = some (.int .i64 0) := by kernel_rfl
theorem sz63 : psize? Tryz.prog 63 = some 1 := by kernel_rfl
theorem pb63 : pbytes? Tryz.prog 63 = some 8 := by kernel_rfl
theorem zv63 : zeroV Tryz.prog 63 = some .nilFunc := by kernel_rfl
theorem sz64 : psize? Tryz.prog 64 = some 1 := by kernel_rfl
theorem pb64 : pbytes? Tryz.prog 64 = some 8 := by kernel_rfl
theorem zv64 : zeroV Tryz.prog 64 = some .nilFunc := by kernel_rfl
theorem sz65 : psize? Tryz.prog 65 = some 1 := by kernel_rfl
theorem pb65 : pbytes? Tryz.prog 65 = some 8 := by kernel_rfl
theorem zv65 : zeroV Tryz.prog 65 = some .nilFunc := by kernel_rfl
theorem sz66 : psize? Tryz.prog 66 = some 1 := by kernel_rfl
theorem pb66 : pbytes? Tryz.prog 66 = some 8 := by kernel_rfl
theorem zv66 : zeroV Tryz.prog 66 = some .nilFunc := by kernel_rfl
theorem sz67 : psize? Tryz.prog 67 = some 1 := by kernel_rfl
theorem pb67 : pbytes? Tryz.prog 67 = some 8 := by kernel_rfl
theorem zv67 : zeroV Tryz.prog 67 = some .nilFunc := by kernel_rfl
theorem zv68 : zeroV Tryz.prog 68 = some (.tuple #[.int .i64 0, .bool false]) := by kernel_rfl
theorem sz69 : psize? Tryz.prog 69 = some 1 := by kernel_rfl
theorem pb69 : pbytes? Tryz.prog 69 = some 8 := by kernel_rfl
theorem zv69 : zeroV Tryz.prog 69 = some .nilFunc := by kernel_rfl
theorem zv70 : zeroV Tryz.prog 70 = some (.tuple #[.int .i64 0, .bool false]) := by kernel_rfl
theorem sz71 : psize? Tryz.prog 71 = some 1 := by kernel_rfl
theorem pb71 : pbytes? Tryz.prog 71 = some 8 := by kernel_rfl
theorem zv71 : zeroV Tryz.prog 71 = some .nilFunc := by kernel_rfl
theorem sz72 : psize? Tryz.prog 72 = some 1 := by kernel_rfl
theorem pb72 : pbytes? Tryz.prog 72 = some 8 := by kernel_rfl
theorem zv72 : zeroV Tryz.prog 72 = some .nilFunc := by kernel_rfl
theorem sz73 : psize? Tryz.prog 73 = some 1 := by kernel_rfl
theorem pb73 : pbytes? Tryz.prog 73 = some 8 := by kernel_rfl
theorem zv73 : zeroV Tryz.prog 73 = some .nilFunc := by kernel_rfl
theorem sz74 : psize? Tryz.prog 74 = some 1 := by kernel_rfl
theorem pb74 : pbytes? Tryz.prog 74 = some 8 := by kernel_rfl
theorem zv74 : zeroV Tryz.prog 74 = some .nilFunc := by kernel_rfl
theorem sz75 : psize? Tryz.prog 75 = some 1 := by kernel_rfl
theorem pb75 : pbytes? Tryz.prog 75 = some 8 := by kernel_rfl
theorem zv75 : zeroV Tryz.prog 75 = some .nilFunc := by kernel_rfl
theorem sz76 : psize? Tryz.prog 76 = some 1 := by kernel_rfl
theorem pb76 : pbytes? Tryz.prog 76 = some 8 := by kernel_rfl
theorem zv76 : zeroV Tryz.prog 76 = some .nilFunc := by kernel_rfl
theorem sz77 : psize? Tryz.prog 77 = some 1 := by kernel_rfl
theorem pb77 : pbytes? Tryz.prog 77 = some 8 := by kernel_rfl
theorem zv77 : zeroV Tryz.prog 77 = some .nilFunc := by kernel_rfl
theorem sz78 : psize? Tryz.prog 78 = some 1 := by kernel_rfl
theorem pb78 : pbytes? Tryz.prog 78 = some 8 := by kernel_rfl
theorem zv78 : zeroV Tryz.prog 78 = some .nilFunc := by kernel_rfl
theorem sz79 : psize? Tryz.prog 79 = some 1 := by kernel_rfl
theorem pb79 : pbytes? Tryz.prog 79 = some 8 := by kernel_rfl
theorem zv79 : zeroV Tryz.prog 79 = some .nilFunc := by kernel_rfl
theorem sz80 : psize? Tryz.prog 80 = some 2 := by kernel_rfl
theorem pb80 : pbytes? Tryz.prog 80 = some 16 := by kernel_rfl
theorem zv80 : zeroV Tryz.prog 80 = some (.agg #[.int .i64 0, .int .i64 0]) := by kernel_rfl
theorem sz81 : psize? Tryz.prog 81 = some 2 := by kernel_rfl
theorem pb81 : pbytes? Tryz.prog 81 = some 16 := by kernel_rfl
theorem zv81 : zeroV Tryz.prog 81 = some (.agg #[.int .i64 0, .int .i64 0]) := by kernel_rfl
theorem sz82 : psize? Tryz.prog 82 = some 1 := by kernel_rfl
theorem pb82 : pbytes? Tryz.prog 82 = some 8 := by kernel_rfl
theorem zv82 : zeroV Tryz.prog 82 = some .nilFunc := by kernel_rfl
theorem sz83 : psize? Tryz.prog 83 = some 1 := by kernel_rfl
theorem pb83 : pbytes? Tryz.prog 83 = some 8 := by kernel_rfl
theorem zv83 : zeroV Tryz.prog 83 = some .nilFunc := by kernel_rfl
theorem sz84 : psize? Tryz.prog 84 = some 1 := by kernel_rfl
theorem pb84 : pbytes? Tryz.prog 84 = some 8 := by kernel_rfl
theorem zv84 : zeroV Tryz.prog 84 = some .nilFunc := by kernel_rfl
theorem sz85 : psize? Tryz.prog 85 = some 1 := by kernel_rfl
theorem pb85 : pbytes? Tryz.prog 85 = some 8 := by kernel_rfl
theorem zv85 : zeroV Tryz.prog 85 = some .nilFunc := by kernel_rfl
theorem sz86 : psize? Tryz.prog 86 = some 1 := by kernel_rfl
theorem pb86 : pbytes? Tryz.prog 86 = some 8 := by kernel_rfl
theorem zv86 : zeroV Tryz.prog 86 = some .nilFunc := by kernel_rfl
theorem sz87 : psize? Tryz.prog 87 = some 1 := by kernel_rfl
theorem pb87 : pbytes? Tryz.prog 87 = some 8 := by kernel_rfl
theorem zv87 : zeroV Tryz.prog 87 = some (.pointer none) := by kernel_rfl
theorem sz88 : psize? Tryz.prog 88 = some 1 := by kernel_rfl
theorem pb88 : pbytes? Tryz.prog 88 = some 8 := by kernel_rfl
theorem zv88 : zeroV Tryz.prog 88 = some (.pointer none) := by kernel_rfl
theorem sz89 : psize? Tryz.prog 89 = some 1 := by kernel_rfl
theorem pb89 : pbytes? Tryz.prog 89 = some 8 := by kernel_rfl
theorem zv89 : zeroV Tryz.prog 89 = some .nilFunc := by kernel_rfl
theorem sz90 : psize? Tryz.prog 90 = some 1 := by kernel_rfl
theorem pb90 : pbytes? Tryz.prog 90 = some 8 := by kernel_rfl
theorem zv90 : zeroV Tryz.prog 90 = some .nilFunc := by kernel_rfl
theorem sz91 : psize? Tryz.prog 91 = some 1 := by kernel_rfl
theorem pb91 : pbytes? Tryz.prog 91 = some 8 := by kernel_rfl
theorem zv91 : zeroV Tryz.prog 91 = some .nilFunc := by kernel_rfl
theorem sz92 : psize? Tryz.prog 92 = some 1 := by kernel_rfl
theorem pb92 : pbytes? Tryz.prog 92 = some 8 := by kernel_rfl
theorem zv92 : zeroV Tryz.prog 92 = some .nilFunc := by kernel_rfl
theorem sz93 : psize? Tryz.prog 93 = some 1 := by kernel_rfl
theorem pb93 : pbytes? Tryz.prog 93 = some 8 := by kernel_rfl
theorem zv93 : zeroV Tryz.prog 93 = some .nilFunc := by kernel_rfl
theorem sz94 : psize? Tryz.prog 94 = some 1 := by kernel_rfl
theorem pb94 : pbytes? Tryz.prog 94 = some 8 := by kernel_rfl
theorem zv94 : zeroV Tryz.prog 94 = some .nilFunc := by kernel_rfl
theorem sz95 : psize? Tryz.prog 95 = some 256 := by kernel_rfl
theorem pb95 : pbytes? Tryz.prog 95 = some 256 := by kernel_rfl
theorem zv95 : zeroV Tryz.prog 95 = some (.agg #[.bool false, .bool false, .bool false, .bool false, .bool false, .bool false, .bool false, .bool false, .bool false, .bool false, .bool false, .bool false, .bool false, .bool false, .bool false, .bool false, .bool false, .bool false, .bool false, .bool false, .bool false, .bool false, .bool false, .bool false, .bool false, .bool false, .bool false, .bool false, .bool false, .bool false, .bool false, .bool false, .bool false, .bool false, .bool false, .bool false, .bool false, .bool false, .bool false, .bool false, .bool false, .bool false, .bool false, .bool false, .bool false, .bool false, .bool false, .bool false, .bool false, .bool false, .bool false, .bool false, .bool false, .bool false, .bool false, .bool false, .bool false, .bool false, .bool false, .bool false, .bool false, .bool false, .bool false, .bool false, .bool false, .bool false, .bool false, .bool false, .bool false, .bool false, .bool false, .bool false, .bool false, .bool false, .bool false, .bool false, .bool false, .bool false, .bool false, .bool false, .bool false, .bool false, .bool false, .bool false, .bool false, .bool false, .bool false, .bool false, .bool false, .bool false, .bool false, .bool false, .bool false, .bool false, .bool false, .bool false, .bool false, .bool false, .bool false, .bool false, .bool false, .bool false, .bool false, .bool false, .bool false, .bool false, .bool false, .bool false, .bool false, .bool false, .bool false, .bool false, .bool false, .bool false, .bool false, .bool false, .bool false, .bool false, .bool false, .bool false, .bool false, .bool false, .bool false, .bool false, .bool false, .bool false, .bool false, .bool false, .bool false, .bool false, .bool false, .bool false, .bool false, .bool false, .bool false, .bool false, .bool false, .bool false, .bool false, .bool false, .bool false, .bool false, .bool false, .bool false, .bool false, .bool false, .bool false, .bool false, .bool false, .bool false, .bool false, .bool false, .bool false, .bool false, .bool false, .bool false, .bool false, .bool false, .bool false, .bool false, .bool false, .bool false, .bool false, .bool false, .bool false, .bool false, .bool false, .bool false, .bool false, .bool false, .bool false, .bool false, .bool false, .bool false, .bool false, .bool false, .bool false, .bool false, .bool false, .bool false, .bool false, .bool false, .bool false, .bool false, .bool false, .bool false, .bool false, .bool false, .bool false, .bool false, .bool false, .bool false, .bool false, .bool false, .bool false, .bool false, .bool false, .bool false, .bool false, .bool false, .bool false, .bool false, .bool false, .bool false, .bool false, .bool false, .bool false, .bool false, .bool false, .bool false, .bool false, .bool false, .bool false, .bool false, .bool false, .bool false, .bool false, .bool false, .bool false, .bool false, .bool false, .bool false, .bool false, .bool false, .bool false, .bool false, .bool false, .bool false, .bool false, .bool false, .bool false, .bool false, .bool false, .bool false, .bool false, .bool false, .bool false, .bool false, .bool false, .bool false, .bool false, .bool false, .bool false, .bool false, .bool false, .bool false, .bool false, .bool false, .bool false, .bool false, .bool false, .bool false, .bool false, .bool false, .bool false, .bool false]) := by kernel_rfl
theorem sz96 : psize? Tryz.prog 96 = some 256 := by kernel_rfl
theorem pb96 : pbytes? Tryz.prog 96 = some 256 := by kernel_rfl
theorem zv96 : zeroV Tryz.prog 96 = some (.agg #[.bool false, .bool false, .bool false, .bool false, .bool false, .bool false, .bool false, .bool false, .bool false, .bool false, .bool false, .bool false, .bool false, .bool false, .bool false, .bool false, .bool false, .bool false, .bool false, .bool false, .bool false, .bool false, .bool false, .bool false, .bool false, .bool false, .bool false, .bool false, .bool false, .bool false, .bool false, .bool false, .bool false, .bool false, .bool false, .bool false, .bool false, .bool false, .bool false, .bool false, .bool false, .bool false, .bool false, .bool false, .bool false, .bool false, .bool false, .bool false, .bool false, .bool false, .bool false, .bool false, .bool false, .bool false, .bool false, .bool false, .bool false, .bool false, .bool false, .bool false, .bool false, .bool false, .bool false, .bool false, .bool false, .bool false, .bool false, .bool false, .bool false, .bool false, .bool false, .bool false, .bool false, .bool false, .bool false, .bool false, .bool false, .bool false, .bool false, .bool false, .bool false, .bool false, .bool false, .bool false, .bool false, .bool false, .bool false, .bool false, .bool false, .bool false, .bool false, .bool false, .bool false, .bool false, .bool false, .bool false, .bool false, .bool false, .bool false, .bool false, .bool false, .bool false, .bool false, .bool false, .bool false, .bool false, .bool false, .bool false, .bool false, .bool false, .bool false, .bool false, .bool false, .bool false, .bool false, .bool false, .bool false, .bool false, .bool false, .bool false, .bool false, .bool false, .bool false, .bool false, .bool false, .bool false, .bool false, .bool false, .bool false, .bool false, .bool false, .bool false, .bool false, .bool false, .bool false, .bool false, .bool false, .bool false, .bool false, .bool false, .bool false, .bool false, .bool false, .bool false, .bool false, .bool false, .bool false, .bool false, .bool false, .bool false, .bool false, .bool false, .bool false, .bool false, .bool false, .bool false, .bool false, .bool false, .bool false, .bool false, .bool false, .bool false, .bool false, .bool false, .bool false, .bool false, .bool false, .bool false, .bool false, .bool false, .bool false, .bool false, .bool false, .bool false, .bool false, .bool false, .bool false, .bool false, .bool false, .bool false, .bool false, .bool false, .bool false, .bool false, .bool false, .bool false, .bool false, .bool false, .bool false, .bool false, .bool false, .bool false, .bool false, .bool false, .bool false, .bool false, .bool false, .bool false, .bool false, .bool false, .bool false, .bool false, .bool false, .bool false, .bool false, .bool false, .bool false, .bool false, .bool false, .bool false, .bool false, .bool false, .bool false, .bool false, .bool false, .bool false, .bool false, .bool false, .bool false, .bool false, .bool false, .bool false, .bool false, .bool false, .bool false, .bool false, .bool false, .bool false, .bool false, .bool false, .bool false, .bool false, .bool false, .bool false, .bool false, .bool false, .bool false, .bool false, .bool false, .bool false, .bool false, .bool false, .bool false, .bool false, .bool false, .bool false, .bool false, .bool false, .bool false, .bool false, .bool false, .bool false, .bool false, .bool false, .bool false, .bool false]) := by kernel_rfl
theorem zv97 : zeroV Tryz.prog 97 = some (.tuple #[.agg #[.bool false, .bool false, .bool false, .bool false, .bool false, .bool false, .bool false, .bool false, .bool false, .bool false, .bool false, .bool false, .bool false, .bool false, .bool false, .bool false, .bool false, .bool false, .bool false, .bool false, .bool false, .bool false, .bool false, .bool false, .bool false, .bool false, .bool false, .bool false, .bool false, .bool false, .bool false, .bool false, .bool false, .bool false, .bool false, .bool false, .bool false, .bool false, .bool false, .bool false, .bool false, .bool false, .bool false, .bool false, .bool false, .bool false, .bool false, .bool false, .bool false, .bool false, .bool false, .bool false, .bool false, .bool false, .bool false, .bool false, .bool false, .bool false, .bool false, .bool false, .bool false, .bool false, .bool false, .bool false, .bool false, .bool false, .bool false, .bool false, .bool false, .bool false, .bool false, .bool false, .bool false, .bool false, .bool false, .bool false, .bool false, .bool false, .bool false, .bool false, .bool false, .bool false, .bool false, .bool false, .bool false, .bool false, .bool false, .bool false, .bool false, .bool false, .bool false, .bool false, .bool false, .bool false, .bool false, .bool false, .bool false, .bool false, .bool false, .bool false, .bool false, .bool false, .bool false, .bool false, .bool false, .bool false, .bool false, .bool false, .bool false, .bool false, .bool false, .bool false, .bool false, .bool false, .bool false, .bool false, .bool false, .bool false, .bool false, .bool false, .bool false, .bool false, .bool false, .bool false, .bool false, .bool false, .bool false, .bool false, .bool false, .bool false, .bool false, .bool false, .bool false, .bool false, .bool false, .bool false, .bool false, .bool false, .bool false, .bool false, .bool false, .bool false, .bool false, .bool false, .bool false, .bool false, .bool false, .bool false, .bool false, .bool false, .bool false, .bool false, .bool false, .bool false, .bool false, .bool false, .bool false, .bool false, .bool false, .bool false, .bool false, .bool false, .bool false, .bool false, .bool false, .bool false, .bool false, .bool false, .bool false, .bool false, .bool false, .bool false, .bool false, .bool false, .bool false, .bool false, .bool false, .bool false, .bool false, .bool false, .bool false, .bool false, .bool false, .bool false, .bool false, .bool false, .bool false, .bool false, .bool false, .bool false, .bool false, .bool false, .bool false, .bool false, .bool false, .bool false, .bool false, .bool false, .bool false, .bool false, .bool false, .bool false, .bool false, .bool false, .bool false, .bool false, .bool false, .bool false, .bool false, .bool false, .bool false, .bool false, .bool false, .bool false, .bool false, .bool false, .bool false, .bool false, .bool false, .bool false, .bool false, .bool false, .bool false, .bool false, .bool false, .bool false, .bool false, .bool false, .bool false, .bool false, .bool false, .bool false, .bool false, .bool false, .bool false, .bool false, .bool false, .bool false, .bool false, .bool false, .bool false, .bool false, .bool false, .bool false, .bool false, .bool false, .bool false, .bool false, .bool false, .bool false, .bool false, .bool false, .bool false, .bool false, .bool false, .bool false], .bool false]) := by kernel_rfl
theorem sz98 : psize? Tryz.prog 98 = some 1 := by kernel_rfl
theorem pb98 : pbytes? Tryz.prog 98 = some 8 := by kernel_rfl
theorem zv98 : zeroV Tryz.prog 98 = some .nilFunc := by kernel_rfl
theorem sz99 : psize? Tryz.prog 99 = some 1 := by kernel_rfl
theorem pb99 : pbytes? Tryz.prog 99 = some 8 := by kernel_rfl
theorem zv99 : zeroV Tryz.prog 99 = some (.pointer none) := by kernel_rfl
theorem sz100 : psize? Tryz.prog 100 = some 1 := by kernel_rfl
theorem pb100 : pbytes? Tryz.prog 100 = some 8 := by kernel_rfl
theorem zv100 : zeroV Tryz.prog 100 = some (.int .u64 0) := by kernel_rfl
theorem sz101 : psize? Tryz.prog 101 = some 3 := by kernel_rfl
theorem pb101 : pbytes? Tryz.prog 101 = some 24 := by kernel_rfl
theorem zv101 : zeroV Tryz.prog 101 = some (.agg #[.pointer none, .pointer none, .int .u64 0]) := by kernel_rfl
theorem sz102 : psize? Tryz.prog 102 = some 3 := by kernel_rfl
theorem pb102 : pbytes? Tryz.prog 102 = some 24 := by kernel_rfl
theorem zv102 : zeroV Tryz.prog 102 = some (.agg #[.pointer none, .pointer none, .int .u64 0]) := by kernel_rfl
theorem sz103 : psize? Tryz.prog 103 = some 1 := by kernel_rfl
theorem pb103 : pbytes? Tryz.prog 103 = some 8 := by kernel_rfl
theorem zv103 : zeroV Tryz.prog 103 = some .nilFunc := by kernel_rfl
theorem sz104 : psize? Tryz.prog 104 = some 1 := by kernel_rfl
theorem pb104 : pbytes? Tryz.prog 104 = some 16 := by kernel_rfl
theorem zv104 : zeroV Tryz.prog 104 = some .nilIface := by kernel_rfl
theorem sz105 : psize? Tryz.prog 105 = some 1 := by kernel_rfl
theorem pb105 : pbytes? Tryz.prog 105 = some 16 := by kernel_rfl
theorem zv105 : zeroV Tryz.prog 105 = some .nilIface := by kernel_rfl
theorem sz106 : psize? Tryz.prog 106 = some 1 := by kernel_rfl
theorem pb106 : pbytes? Tryz.prog 106 = some 8 := by kernel_rfl
theorem zv106 : zeroV Tryz.prog 106 = some .nilFunc := by kernel_rfl
theorem sz107 : psize? Tryz.prog 107 = some 1 := by kernel_rfl
theorem pb107 : pbytes? Tryz.prog 107 = some 1 := by kernel_rfl
theorem zv107 : zeroV Tryz.prog 107 = some (.int .u8 0) := by kernel_rfl
theorem sz108 : psize? Tryz.prog 108 = some 1 := by kernel_rfl
theorem pb108 : pbytes? Tryz.prog 108 = some 8 := by kernel_rfl
theorem zv108 : zeroV Tryz.prog 108 = some .nilFunc := by kernel_rfl
theorem sz109 : psize? Tryz.prog 109 = some 1 := by kernel_rfl
theorem pb109 : pbytes? Tryz.prog 109 = some 8 := by kernel_rfl
theorem zv109 : zeroV Tryz.prog 109 = some .nilFunc := by kernel_rfl
theorem sz110 : psize? Tryz.prog 110 = some 1 := by kernel_rfl
theorem pb110 : pbytes? Tryz.prog 110 = some 8 := by kernel_rfl
theorem zv110 : zeroV Tryz.prog 110 = some .nilFunc := by kernel_rfl
theorem sz111 : psize? Tryz.prog 111 = some 1 := by kernel_rfl
theorem pb111 : pbytes? Tryz.prog 111 = some 8 := by kernel_rfl
theorem zv111 : zeroV Tryz.prog 111 = some .nilFunc := by kernel_rfl
theorem sz112 : psize? Tryz.prog 112 = some 1 := by kernel_rfl
theorem pb112 : pbytes? Tryz.prog 112 = some 8 := by kernel_rfl
theorem zv112 : zeroV Tryz.prog 112 = some .nilFunc := by kernel_rfl
theorem sz113 : psize? Tryz.prog 113 = some 1 := by kernel_rfl
theorem pb113 : pbytes? Tryz.prog 113 = some 8 := by kernel_rfl
theorem zv113 : zeroV Tryz.prog 113 = some .nilFunc := by kernel_rfl
theorem sz114 : psize? Tryz.prog 114 = some 1 := by kernel_rfl
theorem pb114 : pbytes? Tryz.prog 114 = some 8 := by kernel_rfl
theorem zv114 : zeroV Tryz.prog 114 = some (.int .u64 0) := by kernel_rfl
theorem sz115 : psize? Tryz.prog 115 = some 1 := by kernel_rfl
theorem pb115 : pbytes? Tryz.prog 115 = some 8 := by kernel_rfl
theorem zv115 : zeroV Tryz.prog 115 = some .nilFunc := by kernel_rfl
theorem sz116 : psize? Tryz.prog 116 = some 1 := by kernel_rfl
theorem pb116 : pbytes? Tryz.prog 116 = some 8 := by kernel_rfl
theorem zv116 : zeroV Tryz.prog 116 = some .nilFunc := by kernel_rfl
theorem sz117 : psize? Tryz.prog 117 = some 1 := by kernel_rfl
theorem pb117 : pbytes? Tryz.prog 117 = some 8 := by kernel_rfl
theorem zv117 : zeroV Tryz.prog 117 = some .nilFunc := by kernel_rfl
theorem sz118 : psize? Tryz.prog 118 = some 1 := by kernel_rfl
theorem pb118 : pbytes? Tryz.prog 118 = some 8 := by kernel_rfl
theorem zv118 : zeroV Tryz.prog 118 = some (.pointer none) := by kernel_rfl
theorem sz119 : psize? Tryz.prog 119 = some 1 := by kernel_rfl
theorem pb119 : pbytes? Tryz.prog 119 = some 8 := by kernel_rfl
theorem zv119 : zeroV Tryz.prog 119 = some (.agg #[.pointer none]) := by kernel_rfl
theorem sz120 : psize? Tryz.prog 120 = some 1 := by kernel_rfl
theorem pb120 : pbytes? Tryz.prog 120 = some 8 := by kernel_rfl
theorem zv120 : zeroV Tryz.prog 120 = some (.agg #[.pointer none]) := by kernel_rfl
theorem sz121 : psize? Tryz.prog 121 = some 1 := by kernel_rfl
theorem pb121 : pbytes? Tryz.prog 121 = some 8 := by kernel_rfl
theorem zv121 : zeroV Tryz.prog 121 = some (.pointer none) := by kernel_rfl
theorem sz122 : psize? Tryz.prog 122 = some 1 := by kernel_rfl
theorem pb122 : pbytes? Tryz.prog 122 = some 8 := by kernel_rfl
theorem zv122 : zeroV Tryz.prog 122 = some .nilFunc := by kernel_rfl
theorem sz123 : psize? Tryz.prog 123 = some 1 := by kernel_rfl
theorem pb123 : pbytes? Tryz.prog 123 = some 8 := by kernel_rfl
theorem zv123 : zeroV Tryz.prog 123 = some .nilFunc := by kernel_rfl
theorem sz124 : psize? Tryz.prog 124 = some 1 := by kernel_rfl
theorem pb124 : pbytes? Tryz.prog 124 = some 8 := by kernel_rfl
theorem zv124 : zeroV Tryz.prog 124 = some .nilFunc := by kernel_rfl
theorem sz125 : psize? Tryz.prog 125 = some 1 := by kernel_rfl
theorem pb125 : pbytes? Tryz.prog 125 = some 16 := by kernel_rfl
theorem zv125 : zeroV Tryz.prog 125 = some .nilIface := by kernel_rfl
theorem zv126 : zeroV Tryz.prog 126 = some (.tuple #[.nilIface, .bool false]) := by kernel_rfl
theorem sz127 : psize? Tryz.prog 127 = some 1 := by kernel_rfl
theorem pb127 : pbytes? Tryz.prog 127 = some 8 := by kernel_rfl
theorem zv127 : zeroV Tryz.prog 127 = some .nilFunc := by kernel_rfl
theorem sz128 : psize? Tryz.prog 128 = some 1 := by kernel_rfl
theorem pb128 : pbytes? Tryz.prog 128 = some 16 := by kernel_rfl
theorem zv128 : zeroV Tryz.prog 128 = some .nilIface := by kernel_rfl
theorem sz129 : psize? Tryz.prog 129 = some 1 := by kernel_rfl
theorem pb129 : pbytes? Tryz.prog 129 = some 8 := by kernel_rfl
theorem zv129 : zeroV Tryz.prog 129 = some .nilFunc := by kernel_rfl
theorem sz130 : psize? Tryz.prog 130 = some 1 := by kernel_rfl
theorem pb130 : pbytes? Tryz.prog 130 = some 16 := by kernel_rfl
theorem zv130 : zeroV Tryz.prog 130 = some .nilIface := by kernel_rfl
theorem sz131 : psize? Tryz.prog 131 = some 1 := by kernel_rfl
theorem pb131 : pbytes? Tryz.prog 131 = some 24 := by kernel_rfl
theorem zv131 : zeroV Tryz.prog 131 = some (.slice none 0 0) := by kernel_rfl
theorem sz132 : psize? Tryz.prog 132 = some 1 := by kernel_rfl
theorem pb132 : pbytes? Tryz.prog 132 = some 8 := by kernel_rfl
theorem zv132 : zeroV Tryz.prog 132 = some .nilFunc := by kernel_rfl
theorem sz133 : psize? Tryz.prog 133 = some 1 := by kernel_rfl
theorem pb133 : pbytes? Tryz.prog 133 = some 8 := by kernel_rfl
theorem zv133 : zeroV Tryz.prog 133 = some .nilFunc := by kernel_rfl
theorem sz134 : psize? Tryz.prog 134 = some 1 := by kernel_rfl
theorem pb134 : pbytes? Tryz.prog 134 = some 8 := by kernel_rfl
theorem zv134 : zeroV Tryz.prog 134 = some (.int .i64 0) := by kernel_rfl
theorem zv135 : zeroV Tryz.prog 135 = some (.tuple #[.int .i64 0, .int .i64 0]) := by kernel_rfl
theorem sz136 : psize? Tryz.prog 136 = some 1 := by kernel_rfl
theorem pb136 : pbytes? Tryz.prog 136 = some 8 := by kernel_rfl
theorem zv136 : zeroV Tryz.prog 136 = some .nilFunc := by kernel_rfl
theorem sz137 : psize? Tryz.prog 137 = some 1 := by kernel_rfl
theorem pb137 : pbytes? Tryz.prog 137 = some 8 := by kernel_rfl
theorem zv137 : zeroV Tryz.prog 137 = some .nilFunc := by kernel_rfl
theorem sz138 : psize? Tryz.prog 138 = some 1 := by kernel_rfl
theorem pb138 : pbytes? Tryz.prog 138 = some 8 := by kernel_rfl
theorem zv138 : zeroV Tryz.prog 138 = some .nilFunc := by kernel_rfl
theorem sz139 : psize? Tryz.prog 139 = some 1 := by kernel_rfl
theorem pb139 : pbytes? Tryz.prog 139 = some 8 := by kernel_rfl
theorem zv139 : zeroV Tryz.prog 139 = some .nilFunc := by kernel_rfl
theorem sz140 : psize? Tryz.prog 140 = some 1 := by kernel_rfl
theorem pb140 : pbytes? Tryz.prog 140 = some 8 := by kernel_rfl
theorem zv140 : zeroV Tryz.prog 140 = some .nilFunc := by kernel_rfl
theorem sz141 : psize? Tryz.prog 141 = some 1 := by kernel_rfl
theorem pb141 : pbytes? Tryz.prog 141 = some 4 := by kernel_rfl
theorem zv141 : zeroV Tryz.prog 141 = some (.int .u32 0) := by kernel_rfl
theorem sz142 : psize? Tryz.prog 142 = some 1 := by kernel_rfl
theorem pb142 : pbytes? Tryz.prog 142 = some 8 := by kernel_rfl
theorem zv142 : zeroV Tryz.prog 142 = some .nilFunc := by kernel_rfl
theorem sz143 : psize? Tryz.prog 143 = some 1 := by kernel_rfl
theorem pb143 : pbytes? Tryz.prog 143 = some 8 := by kernel_rfl
theorem zv143 : zeroV Tryz.prog 143 = some (.int .u64 0) := by kernel_rfl
theorem sz144 : psize? Tryz.prog 144 = some 1 := by kernel_rfl
theorem pb144 : pbytes? Tryz.prog 144 = some 8 := by kernel_rfl
theorem zv144 : zeroV Tryz.prog 144 = some (.int .u64 0) := by kernel_rfl
theorem sz145 : psize? Tryz.prog 145 = some 1 := by kernel_rfl
theorem pb145 : pbytes? Tryz.prog 145 = some 8 := by kernel_rfl
theorem zv145 : zeroV Tryz.prog 145 = some .nilFunc := by kernel_rfl
theorem sz146 : psize? Tryz.prog 146 = some 1 := by kernel_rfl
theorem pb146 : pbytes? Tryz.prog 146 = some 8 := by kernel_rfl
theorem zv146 : zeroV Tryz.prog 146 = some .nilFunc := by kernel_rfl
theorem sz147 : psize? Tryz.prog 147 = some 1 := by kernel_rfl
theorem pb147 : pbytes? Tryz.prog 147 = some 8 := by kernel_rfl
theorem zv147 : zeroV Tryz.prog 147 = some .nilFunc := by kernel_rfl
theorem sz148 : psize? Tryz.prog 148 = some 1 := by kernel_rfl
theorem pb148 : pbytes? Tryz.prog 148 = some 8 := by kernel_rfl
theorem zv148 : zeroV Tryz.prog 148 = some (.pointer none) := by kernel_rfl
theorem sz149 : psize? Tryz.prog 149 = some 1 := by kernel_rfl
theorem pb149 : pbytes? Tryz.prog 149 = some 8 := by kernel_rfl
theorem zv149 : zeroV Tryz.prog 149 = some .nilFunc := by kernel_rfl
theorem sz150 : psize? Tryz.prog 150 = some 1 := by kernel_rfl
theorem pb150 : pbytes? Tryz.prog 150 = some 8 := by kernel_rfl
theorem zv150 : zeroV Tryz.prog 150 = some (.pointer none) := by kernel_rfl
theorem zv151 : zeroV Tryz.prog 151 = some (.tuple #[.int .i64 0, .int .i64 0]) := by kernel_rfl
theorem sz152 : psize? Tryz.prog 152 = some 1 := by kernel_rfl
theorem pb152 : pbytes? Tryz.prog 152 = some 8 := by kernel_rfl
theorem zv152 : zeroV Tryz.prog 152 = some .nilFunc := by kernel_rfl
theorem sz153 : psize? Tryz.prog 153 = some 4 := by kernel_rfl
theorem pb153 : pbytes? Tryz.prog 153 = some 40 := by kernel_rfl
theorem zv153 : zeroV Tryz.prog 153 = some (.agg #[.pointer none, .pointer none, .pointer none, .string ⟨#[]⟩]) := by kernel_rfl
theorem sz154 : psize? Tryz.prog 154 = some 4 := by kernel_rfl
theorem pb154 : pbytes? Tryz.prog 154 = some 40 := by kernel_rfl
theorem zv154 : zeroV Tryz.prog 154 = some (.agg #[.pointer none, .pointer none, .pointer none, .string ⟨#[]⟩]) := by kernel_rfl
theorem sz155 : psize? Tryz.prog 155 = some 0 := by kernel_rfl
theorem pb155 : pbytes? Tryz.prog 155 = some 0 := by kernel_rfl
theorem zv155 : zeroV Tryz.prog 155 = some (.agg #[]) := by kernel_rfl
theorem sz156 : psize? Tryz.prog 156 = some 0 := by kernel_rfl
theorem pb156 : pbytes? Tryz.prog 156 = some 0 := by kernel_rfl
theorem zv156 : zeroV Tryz.prog 156 = some (.agg #[]) := by kernel_rfl
theorem sz157 : psize? Tryz.prog 157 = some 0 := by kernel_rfl
theorem pb157 : pbytes? Tryz.prog 157 = some 0 := by kernel_rfl
theorem zv157 : zeroV Tryz.prog 157 = some (.agg #[]) := by kernel_rfl
theorem sz158 : psize? Tryz.prog 158 = some 1 := by kernel_rfl
theorem pb158 : pbytes? Tryz.prog 158 = some 8 := by kernel_rfl
theorem zv158 : zeroV Tryz.prog 158 = some .nilFunc := by kernel_rfl
theorem sz159 : psize? Tryz.prog 159 = some 1 := by kernel_rfl
theorem pb159 : pbytes? Tryz.prog 159 = some 8 := by kernel_rfl
theorem zv159 : zeroV Tryz.prog 159 = some .nilFunc := by kernel_rfl
theorem sz160 : psize? Tryz.prog 160 = some 1 := by kernel_rfl
theorem pb160 : pbytes? Tryz.prog 160 = some 1 := by kernel_rfl
theorem zv160 : zeroV Tryz.prog 160 = some (.int .u8 0) := by kernel_rfl
theorem sz161 : psize? Tryz.prog 161 = some 1 := by kernel_rfl
theorem pb161 : pbytes? Tryz.prog 161 = some 8 := by kernel_rfl
theorem zv161 : zeroV Tryz.prog 161 = some .nilFunc := by kernel_rfl
theorem sz162 : psize? Tryz.prog 162 = some 1 := by kernel_rfl
theorem pb162 : pbytes? Tryz.prog 162 = some 8 := by kernel_rfl
theorem zv162 : zeroV Tryz.prog 162 = some (.pointer none) := by kernel_rfl
theorem sz163 : psize? Tryz.prog 163 = some 1 := by kernel_rfl
theorem pb163 : pbytes? Tryz.prog 163 = some 4 := by kernel_rfl
theorem zv163 : zeroV Tryz.prog 163 = some (.int .i32 0) := by kernel_rfl
theorem sz164 : psize? Tryz.prog 164 = some 1 := by kernel_rfl
theorem pb164 : pbytes? Tryz.prog 164 = some 4 := by kernel_rfl
theorem zv164 : zeroV Tryz.prog 164 = some (.int .i32 0) := by kernel_rfl
theorem sz165 : psize? Tryz.prog 165 = some 11 := by kernel_rfl
theorem pb165 : pbytes? Tryz.prog 165 = some 48 := by kernel_rfl
theorem zv165 : zeroV Tryz.prog 165 = some (.agg #[.int .u64 0, .int .u64 0, .int .u32 0, .int .u8 0, .int .u8 0, .int .u8 0, .int .u8 0, .nilFunc, .pointer none, .int .i32 0, .int .i32 0]) := by kernel_rfl
theorem sz166 : psize? Tryz.prog 166 = some 11 := by kernel_rfl
theorem pb166 : pbytes? Tryz.prog 166 = some 48 := by kernel_rfl
theorem zv166 : zeroV Tryz.prog 166 = some (.agg #[.int .u64 0, .int .u64 0, .int .u32 0, .int .u8 0, .int .u8 0, .int .u8 0, .int .u8 0, .nilFunc, .pointer none, .int .i32 0, .int .i32 0]) := by kernel_rfl
theorem sz167 : psize? Tryz.prog 167 = some 1 := by kernel_rfl
theorem pb167 : pbytes? Tryz.prog 167 = some 8 := by kernel_rfl
theorem zv167 : zeroV Tryz.prog 167 = some .nilFunc := by kernel_rfl
theorem sz168 : psize? Tryz.prog 168 = some 1 := by kernel_rfl
theorem pb168 : pbytes? Tryz.prog 168 = some 8 := by kernel_rfl
theorem zv168 : zeroV Tryz.prog 168 = some .nilFunc := by kernel_rfl
theorem sz169 : psize? Tryz.prog 169 = some 2 := by kernel_rfl
theorem pb169 : pbytes? Tryz.prog 169 = some 24 := by kernel_rfl
theorem zv169 : zeroV Tryz.prog 169 = some (.agg #[.string ⟨#[]⟩, .int .u8 0]) := by kernel_rfl
theorem sz170 : psize? Tryz.prog 170 = some 2 := by kernel_rfl
theorem pb170 : pbytes? Tryz.prog 170 = some 24 := by kernel_rfl
theorem zv170 : zeroV Tryz.prog 170 = some (.agg #[.string ⟨#[]⟩, .int .u8 0]) := by kernel_rfl
theorem sz171 : psize? Tryz.prog 171 = some 1 := by kernel_rfl
theorem pb171 : pbytes? Tryz.prog 171 = some 8 := by kernel_rfl
theorem zv171 : zeroV Tryz.prog 171 = some (.pointer none) := by kernel_rfl
theorem sz172 : psize? Tryz.prog 172 = some 1 := by kernel_rfl
theorem pb172 : pbytes? Tryz.prog 172 = some 8 := by kernel_rfl
theorem zv172 : zeroV Tryz.prog 172 = some .nilFunc := by kernel_rfl
theorem sz173 : psize? Tryz.prog 173 = some 1 := by kernel_rfl
theorem pb173 : pbytes? Tryz.prog 173 = some 2 := by kernel_rfl
theorem zv173 : zeroV Tryz.prog 173 = some (.int .u16 0) := by kernel_rfl
theorem sz174 : psize? Tryz.prog 174 = some 5 := by kernel_rfl
theorem pb174 : pbytes? Tryz.prog 174 = some 16 := by kernel_rfl
theorem zv174 : zeroV Tryz.prog 174 = some (.agg #[.int .i32 0, .int .u16 0, .int .u16 0, .int .u32 0, .int .u32 0]) := by kernel_rfl
theorem sz175 : psize? Tryz.prog 175 = some 5 := by kernel_rfl
theorem pb175 : pbytes? Tryz.prog 175 = some 16 := by kernel_rfl
theorem zv175 : zeroV Tryz.prog 175 = some (.agg #[.int .i32 0, .int .u16 0, .int .u16 0, .int .u32 0, .int .u32 0]) := by kernel_rfl
theorem sz176 : psize? Tryz.prog 176 = some 1 := by kernel_rfl
theorem pb176 : pbytes? Tryz.prog 176 = some 24 := by kernel_rfl
theorem zv176 : zeroV Tryz.prog 176 = some (.slice none 0 0) := by kernel_rfl
theorem sz177 : psize? Tryz.prog 177 = some 1 := by kernel_rfl
theorem pb177 : pbytes? Tryz.prog 177 = some 4 := by kernel_rfl
theorem zv177 : zeroV Tryz.prog 177 = some (.int .i32 0) := by kernel_rfl
theorem sz178 : psize? Tryz.prog 178 = some 4 := by kernel_rfl
theorem pb178 : pbytes? Tryz.prog 178 = some 16 := by kernel_rfl
theorem zv178 : zeroV Tryz.prog 178 = some (.agg #[.int .i32 0, .int .i32 0, .int .i32 0, .int .i32 0]) := by kernel_rfl
theorem sz179 : psize? Tryz.prog 179 = some 4 := by kernel_rfl
theorem pb179 : pbytes? Tryz.prog 179 = some 16 := by kernel_rfl
theorem zv179 : zeroV Tryz.prog 179 = some (.agg #[.int .i32 0, .int .i32 0, .int .i32 0, .int .i32 0]) := by kernel_rfl
theorem sz180 : psize? Tryz.prog 180 = some 1 := by kernel_rfl
theorem pb180 : pbytes? Tryz.prog 180 = some 8 := by kernel_rfl
theorem zv180 : zeroV Tryz.prog 180 = some (.pointer none) := by kernel_rfl
theorem hm : Tryz.prog.follows .mixedOrders = true := by kernel_rfl
end Go.Proofs.YticinfoljhlnbaaGreatDoor
