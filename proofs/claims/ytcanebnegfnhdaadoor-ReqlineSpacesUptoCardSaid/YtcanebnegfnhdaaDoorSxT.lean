/-
  Closed facts on this program's functions and types.
-/
import Derived.Test.YtcanebnegfnhdaaDoorProg
import Derived.Test.YtcanebnegfnhdaaDoorSxEq
namespace Go.Proofs.YtcanebnegfnhdaaDoor
open Go.Sx
theorem go3 : GoFn Tryd.prog 3 := ⟨Tryd.f3, Tryd.func3, rfl, by kernel_rfl⟩
theorem go4 : GoFn Tryd.prog 4 := ⟨Tryd.f4, Tryd.func4, rfl, by kernel_rfl⟩
theorem go5 : GoFn Tryd.prog 5 := ⟨Tryd.f5, Tryd.func5, rfl, by kernel_rfl⟩
theorem go6 : GoFn Tryd.prog 6 := ⟨Tryd.f6, Tryd.func6, rfl, by kernel_rfl⟩
theorem go7 : GoFn Tryd.prog 7 := ⟨Tryd.f7, Tryd.func7, rfl, by kernel_rfl⟩
theorem go8 : GoFn Tryd.prog 8 := ⟨Tryd.f8, Tryd.func8, rfl, by kernel_rfl⟩
theorem go9 : GoFn Tryd.prog 9 := ⟨Tryd.f9, Tryd.func9, rfl, by kernel_rfl⟩
theorem go10 : GoFn Tryd.prog 10 := ⟨Tryd.f10, Tryd.func10, rfl, by kernel_rfl⟩
theorem go11 : GoFn Tryd.prog 11 := ⟨Tryd.f11, Tryd.func11, rfl, by kernel_rfl⟩
theorem go12 : GoFn Tryd.prog 12 := ⟨Tryd.f12, Tryd.func12, rfl, by kernel_rfl⟩
theorem go13 : GoFn Tryd.prog 13 := ⟨Tryd.f13, Tryd.func13, rfl, by kernel_rfl⟩
theorem go14 : GoFn Tryd.prog 14 := ⟨Tryd.f14, Tryd.func14, rfl, by kernel_rfl⟩
theorem go15 : GoFn Tryd.prog 15 := ⟨Tryd.f15, Tryd.func15, rfl, by kernel_rfl⟩
theorem go16 : GoFn Tryd.prog 16 := ⟨Tryd.f16, Tryd.func16, rfl, by kernel_rfl⟩
theorem go17 : GoFn Tryd.prog 17 := ⟨Tryd.f17, Tryd.func17, rfl, by kernel_rfl⟩
theorem go18 : GoFn Tryd.prog 18 := ⟨Tryd.f18, Tryd.func18, rfl, by kernel_rfl⟩
theorem go19 : GoFn Tryd.prog 19 := ⟨Tryd.f19, Tryd.func19, rfl, by kernel_rfl⟩
theorem go20 : GoFn Tryd.prog 20 := ⟨Tryd.f20, Tryd.func20, rfl, by kernel_rfl⟩
theorem go21 : GoFn Tryd.prog 21 := ⟨Tryd.f21, Tryd.func21, rfl, by kernel_rfl⟩
theorem go22 : GoFn Tryd.prog 22 := ⟨Tryd.f22, Tryd.func22, rfl, by kernel_rfl⟩
theorem go23 : GoFn Tryd.prog 23 := ⟨Tryd.f23, Tryd.func23, rfl, by kernel_rfl⟩
theorem go24 : GoFn Tryd.prog 24 := ⟨Tryd.f24, Tryd.func24, rfl, by kernel_rfl⟩
theorem go25 : GoFn Tryd.prog 25 := ⟨Tryd.f25, Tryd.func25, rfl, by kernel_rfl⟩
theorem go26 : GoFn Tryd.prog 26 := ⟨Tryd.f26, Tryd.func26, rfl, by kernel_rfl⟩
theorem go27 : GoFn Tryd.prog 27 := ⟨Tryd.f27, Tryd.func27, rfl, by kernel_rfl⟩
theorem go28 : GoFn Tryd.prog 28 := ⟨Tryd.f28, Tryd.func28, rfl, by kernel_rfl⟩
theorem go29 : GoFn Tryd.prog 29 := ⟨Tryd.f29, Tryd.func29, rfl, by kernel_rfl⟩
theorem go30 : GoFn Tryd.prog 30 := ⟨Tryd.f30, Tryd.func30, rfl, by kernel_rfl⟩
theorem go31 : GoFn Tryd.prog 31 := ⟨Tryd.f31, Tryd.func31, rfl, by kernel_rfl⟩
theorem go32 : GoFn Tryd.prog 32 := ⟨Tryd.f32, Tryd.func32, rfl, by kernel_rfl⟩
theorem go33 : GoFn Tryd.prog 33 := ⟨Tryd.f33, Tryd.func33, rfl, by kernel_rfl⟩
theorem go34 : GoFn Tryd.prog 34 := ⟨Tryd.f34, Tryd.func34, rfl, by kernel_rfl⟩
theorem go35 : GoFn Tryd.prog 35 := ⟨Tryd.f35, Tryd.func35, rfl, by kernel_rfl⟩
theorem go36 : GoFn Tryd.prog 36 := ⟨Tryd.f36, Tryd.func36, rfl, by kernel_rfl⟩
theorem go37 : GoFn Tryd.prog 37 := ⟨Tryd.f37, Tryd.func37, rfl, by kernel_rfl⟩
theorem go41 : GoFn Tryd.prog 41 := ⟨Tryd.f41, Tryd.func41, rfl, by kernel_rfl⟩
theorem go42 : GoFn Tryd.prog 42 := ⟨Tryd.f42, Tryd.func42, rfl, by kernel_rfl⟩
theorem go43 : GoFn Tryd.prog 43 := ⟨Tryd.f43, Tryd.func43, rfl, by kernel_rfl⟩
theorem go45 : GoFn Tryd.prog 45 := ⟨Tryd.f45, Tryd.func45, rfl, by kernel_rfl⟩
theorem go51 : GoFn Tryd.prog 51 := ⟨Tryd.f51, Tryd.func51, rfl, by kernel_rfl⟩
theorem go52 : GoFn Tryd.prog 52 := ⟨Tryd.f52, Tryd.func52, rfl, by kernel_rfl⟩
theorem go54 : GoFn Tryd.prog 54 := ⟨Tryd.f54, Tryd.func54, rfl, by kernel_rfl⟩
theorem go55 : GoFn Tryd.prog 55 := ⟨Tryd.f55, Tryd.func55, rfl, by kernel_rfl⟩
theorem go57 : GoFn Tryd.prog 57 := ⟨Tryd.f57, Tryd.func57, rfl, by kernel_rfl⟩
theorem go77 : GoFn Tryd.prog 77 := ⟨Tryd.f77, Tryd.func77, rfl, by kernel_rfl⟩
theorem go94 : GoFn Tryd.prog 94 := ⟨Tryd.f94, Tryd.func94, rfl, by kernel_rfl⟩
theorem go95 : GoFn Tryd.prog 95 := ⟨Tryd.f95, Tryd.func95, rfl, by kernel_rfl⟩
theorem go96 : GoFn Tryd.prog 96 := ⟨Tryd.f96, Tryd.func96, rfl, by kernel_rfl⟩
theorem go97 : GoFn Tryd.prog 97 := ⟨Tryd.f97, Tryd.func97, rfl, by kernel_rfl⟩
theorem go98 : GoFn Tryd.prog 98 := ⟨Tryd.f98, Tryd.func98, rfl, by kernel_rfl⟩
theorem go99 : GoFn Tryd.prog 99 := ⟨Tryd.f99, Tryd.func99, rfl, by kernel_rfl⟩
theorem go100 : GoFn Tryd.prog 100 := ⟨Tryd.f100, Tryd.func100, rfl, by kernel_rfl⟩
theorem go101 : GoFn Tryd.prog 101 := ⟨Tryd.f101, Tryd.func101, rfl, by kernel_rfl⟩
theorem go102 : GoFn Tryd.prog 102 := ⟨Tryd.f102, Tryd.func102, rfl, by kernel_rfl⟩
theorem go103 : GoFn Tryd.prog 103 := ⟨Tryd.f103, Tryd.func103, rfl, by kernel_rfl⟩
theorem go104 : GoFn Tryd.prog 104 := ⟨Tryd.f104, Tryd.func104, rfl, by kernel_rfl⟩
theorem go105 : GoFn Tryd.prog 105 := ⟨Tryd.f105, Tryd.func105, rfl, by kernel_rfl⟩
theorem go106 : GoFn Tryd.prog 106 := ⟨Tryd.f106, Tryd.func106, rfl, by kernel_rfl⟩
theorem go107 : GoFn Tryd.prog 107 := ⟨Tryd.f107, Tryd.func107, rfl, by kernel_rfl⟩
theorem ext56 : ExtFn Tryd.prog 56 Extern.BytealgIndexByte.indexByte := ⟨Tryd.f56, Tryd.func56, by kernel_rfl, by kernel_rfl, by kernel_rfl, by kernel_rfl⟩
theorem zv0 : zeroV Tryd.prog 0 = some (.tuple #[]) := by kernel_rfl
theorem sz1 : psize? Tryd.prog 1 = some 1 := by kernel_rfl
theorem pb1 : pbytes? Tryd.prog 1 = some 8 := by kernel_rfl
theorem zv1 : zeroV Tryd.prog 1 = some .nilFunc := by kernel_rfl
theorem sz2 : psize? Tryd.prog 2 = some 1 := by kernel_rfl
theorem pb2 : pbytes? Tryd.prog 2 = some 8 := by kernel_rfl
theorem zv2 : zeroV Tryd.prog 2 = some (.int .i64 0) := by kernel_rfl
theorem sz3 : psize? Tryd.prog 3 = some 1 := by kernel_rfl
theorem pb3 : pbytes? Tryd.prog 3 = some 8 := by kernel_rfl
theorem zv3 : zeroV Tryd.prog 3 = some (.int .i64 0) := by kernel_rfl
theorem sz4 : psize? Tryd.prog 4 = some 1 := by kernel_rfl
theorem pb4 : pbytes? Tryd.prog 4 = some 1 := by kernel_rfl
theorem zv4 : zeroV Tryd.prog 4 = some (.bool false) := by kernel_rfl
theorem sz5 : psize? Tryd.prog 5 = some 1 := by kernel_rfl
theorem pb5 : pbytes? Tryd.prog 5 = some 1 := by kernel_rfl
theorem zv5 : zeroV Tryd.prog 5 = some (.int .u8 0) := by kernel_rfl
theorem sz6 : psize? Tryd.prog 6 = some 1 := by kernel_rfl
theorem pb6 : pbytes? Tryd.prog 6 = some 1 := by kernel_rfl
theorem zv6 : zeroV Tryd.prog 6 = some (.int .u8 0) := by kernel_rfl
theorem sz7 : psize? Tryd.prog 7 = some 4 := by kernel_rfl
theorem pb7 : pbytes? Tryd.prog 7 = some 24 := by kernel_rfl
theorem zv7 : zeroV Tryd.prog 7 = some (.agg #[.int .i64 0, .int .i64 0, .bool false, .int .u8 0]) := by kernel_rfl
theorem sz8 : psize? Tryd.prog 8 = some 4 := by kernel_rfl
theorem pb8 : pbytes? Tryd.prog 8 = some 24 := by kernel_rfl
theorem zv8 : zeroV Tryd.prog 8 = some (.agg #[.int .i64 0, .int .i64 0, .bool false, .int .u8 0]) := by kernel_rfl
theorem sz9 : psize? Tryd.prog 9 = some 1 := by kernel_rfl
theorem pb9 : pbytes? Tryd.prog 9 = some 16 := by kernel_rfl
theorem zv9 : zeroV Tryd.prog 9 = some (.string ⟨#[]⟩) := by kernel_rfl
theorem sz10 : psize? Tryd.prog 10 = some 1 := by kernel_rfl
theorem pb10 : pbytes? Tryd.prog 10 = some 16 := by kernel_rfl
theorem zv10 : zeroV Tryd.prog 10 = some (.string ⟨#[]⟩) := by kernel_rfl
theorem sz11 : psize? Tryd.prog 11 = some 1 := by kernel_rfl
theorem pb11 : pbytes? Tryd.prog 11 = some 16 := by kernel_rfl
theorem zv11 : zeroV Tryd.prog 11 = some (.string ⟨#[]⟩) := by kernel_rfl
theorem sz12 : psize? Tryd.prog 12 = some 1 := by kernel_rfl
theorem pb12 : pbytes? Tryd.prog 12 = some 8 := by kernel_rfl
theorem zv12 : zeroV Tryd.prog 12 = some (.int .u64 0) := by kernel_rfl
theorem sz13 : psize? Tryd.prog 13 = some 2 := by kernel_rfl
theorem pb13 : pbytes? Tryd.prog 13 = some 24 := by kernel_rfl
theorem zv13 : zeroV Tryd.prog 13 = some (.agg #[.string ⟨#[]⟩, .int .u64 0]) := by kernel_rfl
theorem sz14 : psize? Tryd.prog 14 = some 2 := by kernel_rfl
theorem pb14 : pbytes? Tryd.prog 14 = some 24 := by kernel_rfl
theorem zv14 : zeroV Tryd.prog 14 = some (.agg #[.string ⟨#[]⟩, .int .u64 0]) := by kernel_rfl
theorem sz15 : psize? Tryd.prog 15 = some 1 := by kernel_rfl
theorem pb15 : pbytes? Tryd.prog 15 = some 8 := by kernel_rfl
theorem zv15 : zeroV Tryd.prog 15 = some (.pointer none) := by kernel_rfl
theorem sz16 : psize? Tryd.prog 16 = some 1 := by kernel_rfl
theorem pb16 : pbytes? Tryd.prog 16 = some 8 := by kernel_rfl
theorem zv16 : zeroV Tryd.prog 16 = some (.pointer none) := by kernel_rfl
theorem sz17 : psize? Tryd.prog 17 = some 1 := by kernel_rfl
theorem pb17 : pbytes? Tryd.prog 17 = some 8 := by kernel_rfl
theorem zv17 : zeroV Tryd.prog 17 = some (.pointer none) := by kernel_rfl
theorem sz18 : psize? Tryd.prog 18 = some 1 := by kernel_rfl
theorem pb18 : pbytes? Tryd.prog 18 = some 8 := by kernel_rfl
theorem zv18 : zeroV Tryd.prog 18 = some (.agg #[.pointer none]) := by kernel_rfl
theorem sz19 : psize? Tryd.prog 19 = some 1 := by kernel_rfl
theorem pb19 : pbytes? Tryd.prog 19 = some 8 := by kernel_rfl
theorem zv19 : zeroV Tryd.prog 19 = some (.agg #[.pointer none]) := by kernel_rfl
theorem sz20 : psize? Tryd.prog 20 = some 1 := by kernel_rfl
theorem pb20 : pbytes? Tryd.prog 20 = some 16 := by kernel_rfl
theorem zv20 : zeroV Tryd.prog 20 = some .nilIface := by kernel_rfl
theorem sz21 : psize? Tryd.prog 21 = some 1 := by kernel_rfl
theorem pb21 : pbytes? Tryd.prog 21 = some 4 := by kernel_rfl
theorem zv21 : zeroV Tryd.prog 21 = some (.int .i32 0) := by kernel_rfl
theorem sz22 : psize? Tryd.prog 22 = some 1 := by kernel_rfl
theorem pb22 : pbytes? Tryd.prog 22 = some 8 := by kernel_rfl
theorem zv22 : zeroV Tryd.prog 22 = some .nilFunc := by kernel_rfl
theorem sz23 : psize? Tryd.prog 23 = some 3 := by kernel_rfl
theorem pb23 : pbytes? Tryd.prog 23 = some 40 := by kernel_rfl
theorem zv23 : zeroV Tryd.prog 23 = some (.agg #[.string ⟨#[]⟩, .string ⟨#[]⟩, .int .i64 0]) := by kernel_rfl
theorem sz24 : psize? Tryd.prog 24 = some 3 := by kernel_rfl
theorem pb24 : pbytes? Tryd.prog 24 = some 40 := by kernel_rfl
theorem zv24 : zeroV Tryd.prog 24 = some (.agg #[.string ⟨#[]⟩, .string ⟨#[]⟩, .int .i64 0]) := by kernel_rfl
theorem sz25 : psize? Tryd.prog 25 = some 1 := by kernel_rfl
theorem pb25 : pbytes? Tryd.prog 25 = some 16 := by kernel_rfl
theorem zv25 : zeroV Tryd.prog 25 = some .nilIface := by kernel_rfl
theorem sz26 : psize? Tryd.prog 26 = some 1 := by kernel_rfl
theorem pb26 : pbytes? Tryd.prog 26 = some 16 := by kernel_rfl
theorem zv26 : zeroV Tryd.prog 26 = some .nilIface := by kernel_rfl
theorem zv27 : zeroV Tryd.prog 27 = some (.tuple #[.agg #[.string ⟨#[]⟩, .string ⟨#[]⟩, .int .i64 0], .nilIface]) := by kernel_rfl
theorem sz28 : psize? Tryd.prog 28 = some 1 := by kernel_rfl
theorem pb28 : pbytes? Tryd.prog 28 = some 8 := by kernel_rfl
theorem zv28 : zeroV Tryd.prog 28 = some .nilFunc := by kernel_rfl
theorem sz29 : psize? Tryd.prog 29 = some 3 := by kernel_rfl
theorem pb29 : pbytes? Tryd.prog 29 = some 40 := by kernel_rfl
theorem zv29 : zeroV Tryd.prog 29 = some (.agg #[.string ⟨#[]⟩, .string ⟨#[]⟩, .int .i64 0]) := by kernel_rfl
theorem zv30 : zeroV Tryd.prog 30 = some (.tuple #[.agg #[.string ⟨#[]⟩, .string ⟨#[]⟩, .int .i64 0], .int .i64 0, .int .i64 0]) := by kernel_rfl
theorem sz31 : psize? Tryd.prog 31 = some 1 := by kernel_rfl
theorem pb31 : pbytes? Tryd.prog 31 = some 8 := by kernel_rfl
theorem zv31 : zeroV Tryd.prog 31 = some .nilFunc := by kernel_rfl
theorem sz32 : psize? Tryd.prog 32 = some 1 := by kernel_rfl
theorem pb32 : pbytes? Tryd.prog 32 = some 8 := by kernel_rfl
theorem zv32 : zeroV Tryd.prog 32 = some .nilFunc := by kernel_rfl
theorem sz33 : psize? Tryd.prog 33 = some 1 := by kernel_rfl
theorem pb33 : pbytes? Tryd.prog 33 = some 8 := by kernel_rfl
theorem zv33 : zeroV Tryd.prog 33 = some .nilFunc := by kernel_rfl
theorem sz34 : psize? Tryd.prog 34 = some 1 := by kernel_rfl
theorem pb34 : pbytes? Tryd.prog 34 = some 8 := by kernel_rfl
theorem zv34 : zeroV Tryd.prog 34 = some .nilFunc := by kernel_rfl
theorem sz35 : psize? Tryd.prog 35 = some 1 := by kernel_rfl
theorem pb35 : pbytes? Tryd.prog 35 = some 8 := by kernel_rfl
theorem zv35 : zeroV Tryd.prog 35 = some .nilFunc := by kernel_rfl
theorem sz36 : psize? Tryd.prog 36 = some 1 := by kernel_rfl
theorem pb36 : pbytes? Tryd.prog 36 = some 8 := by kernel_rfl
theorem zv36 : zeroV Tryd.prog 36 = some .nilFunc := by kernel_rfl
theorem sz37 : psize? Tryd.prog 37 = some 1 := by kernel_rfl
theorem pb37 : pbytes? Tryd.prog 37 = some 8 := by kernel_rfl
theorem zv37 : zeroV Tryd.prog 37 = some .nilFunc := by kernel_rfl
theorem sz38 : psize? Tryd.prog 38 = some 1 := by kernel_rfl
theorem pb38 : pbytes? Tryd.prog 38 = some 24 := by kernel_rfl
theorem zv38 : zeroV Tryd.prog 38 = some (.slice none 0 0) := by kernel_rfl
theorem sz39 : psize? Tryd.prog 39 = some 1 := by kernel_rfl
theorem pb39 : pbytes? Tryd.prog 39 = some 8 := by kernel_rfl
theorem zv39 : zeroV Tryd.prog 39 = some .nilFunc := by kernel_rfl
theorem sz40 : psize? Tryd.prog 40 = some 1 := by kernel_rfl
theorem pb40 : pbytes? Tryd.prog 40 = some 8 := by kernel_rfl
theorem zv40 : zeroV Tryd.prog 40 = some .nilFunc := by kernel_rfl
theorem sz41 : psize? Tryd.prog 41 = some 1 := by kernel_rfl
theorem pb41 : pbytes? Tryd.prog 41 = some 2 := by kernel_rfl
theorem zv41 : zeroV Tryd.prog 41 = some (.int .u16 0) := by kernel_rfl
theorem sz42 : psize? Tryd.prog 42 = some 1 := by kernel_rfl
theorem pb42 : pbytes? Tryd.prog 42 = some 8 := by kernel_rfl
theorem zv42 : zeroV Tryd.prog 42 = some .nilFunc := by kernel_rfl
theorem sz43 : psize? Tryd.prog 43 = some 1 := by kernel_rfl
theorem pb43 : pbytes? Tryd.prog 43 = some 8 := by kernel_rfl
theorem zv43 : zeroV Tryd.prog 43 = some .nilFunc := by kernel_rfl
theorem sz44 : psize? Tryd.prog 44 = some 1 := by kernel_rfl
theorem pb44 : pbytes? Tryd.prog 44 = some 8 := by kernel_rfl
theorem zv44 : zeroV Tryd.prog 44 = some .nilFunc := by kernel_rfl
theorem sz45 : psize? Tryd.prog 45 = some 1 := by kernel_rfl
theorem pb45 : pbytes? Tryd.prog 45 = some 8 := by kernel_rfl
theorem zv45 : zeroV Tryd.prog 45 = some .nilFunc := by kernel_rfl
theorem sz46 : psize? Tryd.prog 46 = some 1 := by kernel_rfl
theorem pb46 : pbytes? Tryd.prog 46 = some 8 := by kernel_rfl
theorem zv46 : zeroV Tryd.prog 46 = some (.int .i64 0) := by kernel_rfl
theorem sz47 : psize? Tryd.prog 47 = some 3 := by kernel_rfl
theorem pb47 : pbytes? Tryd.prog 47 = some 24 := by kernel_rfl
theorem zv47 : zeroV Tryd.prog 47 = some (.agg #[.int .i64 0, .nilFunc, .int .i64 0]) := by kernel_rfl
theorem sz48 : psize? Tryd.prog 48 = some 3 := by kernel_rfl
theorem pb48 : pbytes? Tryd.prog 48 = some 24 := by kernel_rfl
theorem zv48 : zeroV Tryd.prog 48 = some (.agg #[.int .i64 0, .nilFunc, .int .i64 0]) := by kernel_rfl
theorem sz49 : psize? Tryd.prog 49 = some 12 := by kernel_rfl
theorem pb49 : pbytes? Tryd.prog 49 = some 96 := by kernel_rfl
theorem zv49 : zeroV Tryd.prog 49 = some (.agg #[.int .i64 0, .nilFunc, .int .i64 0, .int .i64 0, .nilFunc, .int .i64 0, .int .i64 0, .nilFunc, .int .i64 0, .int .i64 0, .nilFunc, .int .i64 0]) := by kernel_rfl
theorem sz50 : psize? Tryd.prog 50 = some 1 := by kernel_rfl
theorem pb50 : pbytes? Tryd.prog 50 = some 8 := by kernel_rfl
theorem zv50 : zeroV Tryd.prog 50 = some .nilFunc := by kernel_rfl
theorem sz51 : psize? Tryd.prog 51 = some 1 := by kernel_rfl
theorem pb51 : pbytes? Tryd.prog 51 = some 24 := by kernel_rfl
theorem zv51 : zeroV Tryd.prog 51 = some (.slice none 0 0) := by kernel_rfl
theorem sz52 : psize? Tryd.prog 52 = some 1 := by kernel_rfl
theorem pb52 : pbytes? Tryd.prog 52 = some 8 := by kernel_rfl
theorem zv52 : zeroV Tryd.prog 52 = some .nilFunc := by kernel_rfl
theorem zv53 : zeroV Tryd.prog 53 = some (.tuple #[.int .i64 0, .bool false]) := by kernel_rfl
theorem sz54 : psize? Tryd.prog 54 = some 1 := by kernel_rfl
theorem pb54 : pbytes? Tryd.prog 54 = some 8 := by kernel_rfl
theorem zv54 : zeroV Tryd.prog 54 = some .nilFunc := by kernel_rfl
theorem zv55 : zeroV Tryd.prog 55 = some (.tuple #[.int .i64 0, .bool false]) := by kernel_rfl
theorem sz56 : psize? Tryd.prog 56 = some 1 := by kernel_rfl
theorem pb56 : pbytes? Tryd.prog 56 = some 8 := by kernel_rfl
theorem zv56 : zeroV Tryd.prog 56 = some .nilFunc := by kernel_rfl
theorem sz57 : psize? Tryd.prog 57 = some 1 := by kernel_rfl
theorem pb57 : pbytes? Tryd.prog 57 = some 8 := by kernel_rfl
theorem zv57 : zeroV Tryd.prog 57 = some (.map none) := by kernel_rfl
theorem sz58 : psize? Tryd.prog 58 = some 1 := by kernel_rfl
theorem pb58 : pbytes? Tryd.prog 58 = some 8 := by kernel_rfl
theorem zv58 : zeroV Tryd.prog 58 = some .nilFunc := by kernel_rfl
theorem sz59 : psize? Tryd.prog 59 = some 6 := by kernel_rfl
theorem pb59 : pbytes? Tryd.prog 59 = some 96 := by kernel_rfl
theorem zv59 : zeroV Tryd.prog 59 = some (.agg #[.string ⟨#[]⟩, .string ⟨#[]⟩, .string ⟨#[]⟩, .string ⟨#[]⟩, .string ⟨#[]⟩, .string ⟨#[]⟩]) := by kernel_rfl
theorem sz60 : psize? Tryd.prog 60 = some 1 := by kernel_rfl
theorem pb60 : pbytes? Tryd.prog 60 = some 8 := by kernel_rfl
theorem zv60 : zeroV Tryd.prog 60 = some .nilFunc := by kernel_rfl
theorem sz61 : psize? Tryd.prog 61 = some 2 := by kernel_rfl
theorem pb61 : pbytes? Tryd.prog 61 = some 16 := by kernel_rfl
theorem zv61 : zeroV Tryd.prog 61 = some (.agg #[.int .i64 0, .int .i64 0]) := by kernel_rfl
theorem sz62 : psize? Tryd.prog 62 = some 2 := by kernel_rfl
theorem pb62 : pbytes? Tryd.prog 62 = some 16 := by kernel_rfl
theorem zv62 : zeroV Tryd.prog 62 = some (.agg #[.int .i64 0, .int .i64 0]) := by kernel_rfl
theorem sz63 : psize? Tryd.prog 63 = some 1 := by kernel_rfl
theorem pb63 : pbytes? Tryd.prog 63 = some 8 := by kernel_rfl
theorem zv63 : zeroV Tryd.prog 63 = some (.pointer none) := by kernel_rfl
theorem sz64 : psize? Tryd.prog 64 = some 1 := by kernel_rfl
theorem pb64 : pbytes? Tryd.prog 64 = some 24 := by kernel_rfl
theorem zv64 : zeroV Tryd.prog 64 = some (.slice none 0 0) := by kernel_rfl
theorem sz65 : psize? Tryd.prog 65 = some 2 := by kernel_rfl
theorem pb65 : pbytes? Tryd.prog 65 = some 32 := by kernel_rfl
theorem zv65 : zeroV Tryd.prog 65 = some (.agg #[.pointer none, .slice none 0 0]) := by kernel_rfl
theorem sz66 : psize? Tryd.prog 66 = some 2 := by kernel_rfl
theorem pb66 : pbytes? Tryd.prog 66 = some 32 := by kernel_rfl
theorem zv66 : zeroV Tryd.prog 66 = some (.agg #[.pointer none, .slice none 0 0]) := by kernel_rfl
theorem sz67 : psize? Tryd.prog 67 = some 1 := by kernel_rfl
theorem pb67 : pbytes? Tryd.prog 67 = some 8 := by kernel_rfl
theorem zv67 : zeroV Tryd.prog 67 = some .nilFunc := by kernel_rfl
theorem zv68 : zeroV Tryd.prog 68 = some (.tuple #[.int .i64 0, .nilIface]) := by kernel_rfl
theorem sz69 : psize? Tryd.prog 69 = some 1 := by kernel_rfl
theorem pb69 : pbytes? Tryd.prog 69 = some 8 := by kernel_rfl
theorem zv69 : zeroV Tryd.prog 69 = some .nilFunc := by kernel_rfl
theorem sz70 : psize? Tryd.prog 70 = some 1 := by kernel_rfl
theorem pb70 : pbytes? Tryd.prog 70 = some 8 := by kernel_rfl
theorem zv70 : zeroV Tryd.prog 70 = some .nilFunc := by kernel_rfl
theorem sz71 : psize? Tryd.prog 71 = some 1 := by kernel_rfl
theorem pb71 : pbytes? Tryd.prog 71 = some 8 := by kernel_rfl
theorem zv71 : zeroV Tryd.prog 71 = some .nilFunc := by kernel_rfl
theorem sz72 : psize? Tryd.prog 72 = some 1 := by kernel_rfl
theorem pb72 : pbytes? Tryd.prog 72 = some 8 := by kernel_rfl
theorem zv72 : zeroV Tryd.prog 72 = some .nilFunc := by kernel_rfl
theorem sz73 : psize? Tryd.prog 73 = some 1 := by kernel_rfl
theorem pb73 : pbytes? Tryd.prog 73 = some 8 := by kernel_rfl
theorem zv73 : zeroV Tryd.prog 73 = some (.pointer none) := by kernel_rfl
theorem sz74 : psize? Tryd.prog 74 = some 1 := by kernel_rfl
theorem pb74 : pbytes? Tryd.prog 74 = some 8 := by kernel_rfl
theorem zv74 : zeroV Tryd.prog 74 = some (.pointer none) := by kernel_rfl
theorem sz75 : psize? Tryd.prog 75 = some 1 := by kernel_rfl
theorem pb75 : pbytes? Tryd.prog 75 = some 8 := by kernel_rfl
theorem zv75 : zeroV Tryd.prog 75 = some .nilFunc := by kernel_rfl
theorem sz76 : psize? Tryd.prog 76 = some 1 := by kernel_rfl
theorem pb76 : pbytes? Tryd.prog 76 = some 8 := by kernel_rfl
theorem zv76 : zeroV Tryd.prog 76 = some .nilFunc := by kernel_rfl
theorem sz77 : psize? Tryd.prog 77 = some 1 := by kernel_rfl
theorem pb77 : pbytes? Tryd.prog 77 = some 8 := by kernel_rfl
theorem zv77 : zeroV Tryd.prog 77 = some (.pointer none) := by kernel_rfl
theorem sz78 : psize? Tryd.prog 78 = some 1 := by kernel_rfl
theorem pb78 : pbytes? Tryd.prog 78 = some 8 := by kernel_rfl
theorem zv78 : zeroV Tryd.prog 78 = some (.pointer none) := by kernel_rfl
theorem sz79 : psize? Tryd.prog 79 = some 1 := by kernel_rfl
theorem pb79 : pbytes? Tryd.prog 79 = some 8 := by kernel_rfl
theorem zv79 : zeroV Tryd.prog 79 = some (.int .u64 0) := by kernel_rfl
theorem sz80 : psize? Tryd.prog 80 = some 3 := by kernel_rfl
theorem pb80 : pbytes? Tryd.prog 80 = some 24 := by kernel_rfl
theorem zv80 : zeroV Tryd.prog 80 = some (.agg #[.pointer none, .pointer none, .int .u64 0]) := by kernel_rfl
theorem sz81 : psize? Tryd.prog 81 = some 3 := by kernel_rfl
theorem pb81 : pbytes? Tryd.prog 81 = some 24 := by kernel_rfl
theorem zv81 : zeroV Tryd.prog 81 = some (.agg #[.pointer none, .pointer none, .int .u64 0]) := by kernel_rfl
theorem sz82 : psize? Tryd.prog 82 = some 1 := by kernel_rfl
theorem pb82 : pbytes? Tryd.prog 82 = some 8 := by kernel_rfl
theorem zv82 : zeroV Tryd.prog 82 = some .nilFunc := by kernel_rfl
theorem sz83 : psize? Tryd.prog 83 = some 1 := by kernel_rfl
theorem pb83 : pbytes? Tryd.prog 83 = some 16 := by kernel_rfl
theorem zv83 : zeroV Tryd.prog 83 = some .nilIface := by kernel_rfl
theorem sz84 : psize? Tryd.prog 84 = some 1 := by kernel_rfl
theorem pb84 : pbytes? Tryd.prog 84 = some 16 := by kernel_rfl
theorem zv84 : zeroV Tryd.prog 84 = some .nilIface := by kernel_rfl
theorem sz85 : psize? Tryd.prog 85 = some 1 := by kernel_rfl
theorem pb85 : pbytes? Tryd.prog 85 = some 8 := by kernel_rfl
theorem zv85 : zeroV Tryd.prog 85 = some .nilFunc := by kernel_rfl
theorem sz86 : psize? Tryd.prog 86 = some 1 := by kernel_rfl
theorem pb86 : pbytes? Tryd.prog 86 = some 1 := by kernel_rfl
theorem zv86 : zeroV Tryd.prog 86 = some (.int .u8 0) := by kernel_rfl
theorem sz87 : psize? Tryd.prog 87 = some 1 := by kernel_rfl
theorem pb87 : pbytes? Tryd.prog 87 = some 8 := by kernel_rfl
theorem zv87 : zeroV Tryd.prog 87 = some .nilFunc := by kernel_rfl
theorem sz88 : psize? Tryd.prog 88 = some 1 := by kernel_rfl
theorem pb88 : pbytes? Tryd.prog 88 = some 8 := by kernel_rfl
theorem zv88 : zeroV Tryd.prog 88 = some .nilFunc := by kernel_rfl
theorem sz89 : psize? Tryd.prog 89 = some 1 := by kernel_rfl
theorem pb89 : pbytes? Tryd.prog 89 = some 8 := by kernel_rfl
theorem zv89 : zeroV Tryd.prog 89 = some .nilFunc := by kernel_rfl
theorem zv90 : zeroV Tryd.prog 90 = some (.tuple #[.int .i32 0, .int .i64 0]) := by kernel_rfl
theorem sz91 : psize? Tryd.prog 91 = some 1 := by kernel_rfl
theorem pb91 : pbytes? Tryd.prog 91 = some 8 := by kernel_rfl
theorem zv91 : zeroV Tryd.prog 91 = some .nilFunc := by kernel_rfl
theorem sz92 : psize? Tryd.prog 92 = some 1 := by kernel_rfl
theorem pb92 : pbytes? Tryd.prog 92 = some 8 := by kernel_rfl
theorem zv92 : zeroV Tryd.prog 92 = some .nilFunc := by kernel_rfl
theorem sz93 : psize? Tryd.prog 93 = some 1 := by kernel_rfl
theorem pb93 : pbytes? Tryd.prog 93 = some 8 := by kernel_rfl
theorem zv93 : zeroV Tryd.prog 93 = some .nilFunc := by kernel_rfl
theorem sz94 : psize? Tryd.prog 94 = some 1 := by kernel_rfl
theorem pb94 : pbytes? Tryd.prog 94 = some 8 := by kernel_rfl
theorem zv94 : zeroV Tryd.prog 94 = some .nilFunc := by kernel_rfl
theorem sz95 : psize? Tryd.prog 95 = some 1 := by kernel_rfl
theorem pb95 : pbytes? Tryd.prog 95 = some 8 := by kernel_rfl
theorem zv95 : zeroV Tryd.prog 95 = some (.agg #[.pointer none]) := by kernel_rfl
theorem sz96 : psize? Tryd.prog 96 = some 1 := by kernel_rfl
theorem pb96 : pbytes? Tryd.prog 96 = some 8 := by kernel_rfl
theorem zv96 : zeroV Tryd.prog 96 = some (.agg #[.pointer none]) := by kernel_rfl
theorem sz97 : psize? Tryd.prog 97 = some 1 := by kernel_rfl
theorem pb97 : pbytes? Tryd.prog 97 = some 8 := by kernel_rfl
theorem zv97 : zeroV Tryd.prog 97 = some (.pointer none) := by kernel_rfl
theorem sz98 : psize? Tryd.prog 98 = some 1 := by kernel_rfl
theorem pb98 : pbytes? Tryd.prog 98 = some 8 := by kernel_rfl
theorem zv98 : zeroV Tryd.prog 98 = some .nilFunc := by kernel_rfl
theorem sz99 : psize? Tryd.prog 99 = some 1 := by kernel_rfl
theorem pb99 : pbytes? Tryd.prog 99 = some 8 := by kernel_rfl
theorem zv99 : zeroV Tryd.prog 99 = some .nilFunc := by kernel_rfl
theorem sz100 : psize? Tryd.prog 100 = some 1 := by kernel_rfl
theorem pb100 : pbytes? Tryd.prog 100 = some 8 := by kernel_rfl
theorem zv100 : zeroV Tryd.prog 100 = some .nilFunc := by kernel_rfl
theorem sz101 : psize? Tryd.prog 101 = some 1 := by kernel_rfl
theorem pb101 : pbytes? Tryd.prog 101 = some 16 := by kernel_rfl
theorem zv101 : zeroV Tryd.prog 101 = some .nilIface := by kernel_rfl
theorem zv102 : zeroV Tryd.prog 102 = some (.tuple #[.nilIface, .bool false]) := by kernel_rfl
theorem sz103 : psize? Tryd.prog 103 = some 1 := by kernel_rfl
theorem pb103 : pbytes? Tryd.prog 103 = some 8 := by kernel_rfl
theorem zv103 : zeroV Tryd.prog 103 = some .nilFunc := by kernel_rfl
theorem sz104 : psize? Tryd.prog 104 = some 1 := by kernel_rfl
theorem pb104 : pbytes? Tryd.prog 104 = some 16 := by kernel_rfl
theorem zv104 : zeroV Tryd.prog 104 = some .nilIface := by kernel_rfl
theorem sz105 : psize? Tryd.prog 105 = some 1 := by kernel_rfl
theorem pb105 : pbytes? Tryd.prog 105 = some 8 := by kernel_rfl
theorem zv105 : zeroV Tryd.prog 105 = some .nilFunc := by kernel_rfl
theorem sz106 : psize? Tryd.prog 106 = some 1 := by kernel_rfl
theorem pb106 : pbytes? Tryd.prog 106 = some 16 := by kernel_rfl
theorem zv106 : zeroV Tryd.prog 106 = some .nilIface := by kernel_rfl
theorem sz107 : psize? Tryd.prog 107 = some 1 := by kernel_rfl
theorem pb107 : pbytes? Tryd.prog 107 = some 24 := by kernel_rfl
theorem zv107 : zeroV Tryd.prog 107 = some (.slice none 0 0) := by kernel_rfl
theorem sz108 : psize? Tryd.prog 108 = some 1 := by kernel_rfl
theorem pb108 : pbytes? Tryd.prog 108 = some 8 := by kernel_rfl
theorem zv108 : zeroV Tryd.prog 108 = some .nilFunc := by kernel_rfl
theorem sz109 : psize? Tryd.prog 109 = some 1 := by kernel_rfl
theorem pb109 : pbytes? Tryd.prog 109 = some 8 := by kernel_rfl
theorem zv109 : zeroV Tryd.prog 109 = some .nilFunc := by kernel_rfl
theorem sz110 : psize? Tryd.prog 110 = some 1 := by kernel_rfl
theorem pb110 : pbytes? Tryd.prog 110 = some 8 := by kernel_rfl
theorem zv110 : zeroV Tryd.prog 110 = some (.int .u64 0) := by kernel_rfl
theorem sz111 : psize? Tryd.prog 111 = some 256 := by kernel_rfl
theorem pb111 : pbytes? Tryd.prog 111 = some 256 := by kernel_rfl
theorem zv111 : zeroV Tryd.prog 111 = some (.agg #[.int .u8 0, .int .u8 0, .int .u8 0, .int .u8 0, .int .u8 0, .int .u8 0, .int .u8 0, .int .u8 0, .int .u8 0, .int .u8 0, .int .u8 0, .int .u8 0, .int .u8 0, .int .u8 0, .int .u8 0, .int .u8 0, .int .u8 0, .int .u8 0, .int .u8 0, .int .u8 0, .int .u8 0, .int .u8 0, .int .u8 0, .int .u8 0, .int .u8 0, .int .u8 0, .int .u8 0, .int .u8 0, .int .u8 0, .int .u8 0, .int .u8 0, .int .u8 0, .int .u8 0, .int .u8 0, .int .u8 0, .int .u8 0, .int .u8 0, .int .u8 0, .int .u8 0, .int .u8 0, .int .u8 0, .int .u8 0, .int .u8 0, .int .u8 0, .int .u8 0, .int .u8 0, .int .u8 0, .int .u8 0, .int .u8 0, .int .u8 0, .int .u8 0, .int .u8 0, .int .u8 0, .int .u8 0, .int .u8 0, .int .u8 0, .int .u8 0, .int .u8 0, .int .u8 0, .int .u8 0, .int .u8 0, .int .u8 0, .int .u8 0, .int .u8 0, .int .u8 0, .int .u8 0, .int .u8 0, .int .u8 0, .int .u8 0, .int .u8 0, .int .u8 0, .int .u8 0, .int .u8 0, .int .u8 0, .int .u8 0, .int .u8 0, .int .u8 0, .int .u8 0, .int .u8 0, .int .u8 0, .int .u8 0, .int .u8 0, .int .u8 0, .int .u8 0, .int .u8 0, .int .u8 0, .int .u8 0, .int .u8 0, .int .u8 0, .int .u8 0, .int .u8 0, .int .u8 0, .int .u8 0, .int .u8 0, .int .u8 0, .int .u8 0, .int .u8 0, .int .u8 0, .int .u8 0, .int .u8 0, .int .u8 0, .int .u8 0, .int .u8 0, .int .u8 0, .int .u8 0, .int .u8 0, .int .u8 0, .int .u8 0, .int .u8 0, .int .u8 0, .int .u8 0, .int .u8 0, .int .u8 0, .int .u8 0, .int .u8 0, .int .u8 0, .int .u8 0, .int .u8 0, .int .u8 0, .int .u8 0, .int .u8 0, .int .u8 0, .int .u8 0, .int .u8 0, .int .u8 0, .int .u8 0, .int .u8 0, .int .u8 0, .int .u8 0, .int .u8 0, .int .u8 0, .int .u8 0, .int .u8 0, .int .u8 0, .int .u8 0, .int .u8 0, .int .u8 0, .int .u8 0, .int .u8 0, .int .u8 0, .int .u8 0, .int .u8 0, .int .u8 0, .int .u8 0, .int .u8 0, .int .u8 0, .int .u8 0, .int .u8 0, .int .u8 0, .int .u8 0, .int .u8 0, .int .u8 0, .int .u8 0, .int .u8 0, .int .u8 0, .int .u8 0, .int .u8 0, .int .u8 0, .int .u8 0, .int .u8 0, .int .u8 0, .int .u8 0, .int .u8 0, .int .u8 0, .int .u8 0, .int .u8 0, .int .u8 0, .int .u8 0, .int .u8 0, .int .u8 0, .int .u8 0, .int .u8 0, .int .u8 0, .int .u8 0, .int .u8 0, .int .u8 0, .int .u8 0, .int .u8 0, .int .u8 0, .int .u8 0, .int .u8 0, .int .u8 0, .int .u8 0, .int .u8 0, .int .u8 0, .int .u8 0, .int .u8 0, .int .u8 0, .int .u8 0, .int .u8 0, .int .u8 0, .int .u8 0, .int .u8 0, .int .u8 0, .int .u8 0, .int .u8 0, .int .u8 0, .int .u8 0, .int .u8 0, .int .u8 0, .int .u8 0, .int .u8 0, .int .u8 0, .int .u8 0, .int .u8 0, .int .u8 0, .int .u8 0, .int .u8 0, .int .u8 0, .int .u8 0, .int .u8 0, .int .u8 0, .int .u8 0, .int .u8 0, .int .u8 0, .int .u8 0, .int .u8 0, .int .u8 0, .int .u8 0, .int .u8 0, .int .u8 0, .int .u8 0, .int .u8 0, .int .u8 0, .int .u8 0, .int .u8 0, .int .u8 0, .int .u8 0, .int .u8 0, .int .u8 0, .int .u8 0, .int .u8 0, .int .u8 0, .int .u8 0, .int .u8 0, .int .u8 0, .int .u8 0, .int .u8 0, .int .u8 0, .int .u8 0, .int .u8 0, .int .u8 0, .int .u8 0, .int .u8 0, .int .u8 0, .int .u8 0, .int .u8 0, .int .u8 0, .int .u8 0, .int .u8 0, .int .u8 0, .int .u8 0, .int .u8 0, .int .u8 0, .int .u8 0, .int .u8 0]) := by kernel_rfl
theorem sz112 : psize? Tryd.prog 112 = some 2 := by kernel_rfl
theorem pb112 : pbytes? Tryd.prog 112 = some 2 := by kernel_rfl
theorem zv112 : zeroV Tryd.prog 112 = some (.agg #[.int .u8 0, .int .u8 0]) := by kernel_rfl
theorem sz113 : psize? Tryd.prog 113 = some 2 := by kernel_rfl
theorem pb113 : pbytes? Tryd.prog 113 = some 2 := by kernel_rfl
theorem zv113 : zeroV Tryd.prog 113 = some (.agg #[.int .u8 0, .int .u8 0]) := by kernel_rfl
theorem sz114 : psize? Tryd.prog 114 = some 32 := by kernel_rfl
theorem pb114 : pbytes? Tryd.prog 114 = some 32 := by kernel_rfl
theorem zv114 : zeroV Tryd.prog 114 = some (.agg #[.int .u8 0, .int .u8 0, .int .u8 0, .int .u8 0, .int .u8 0, .int .u8 0, .int .u8 0, .int .u8 0, .int .u8 0, .int .u8 0, .int .u8 0, .int .u8 0, .int .u8 0, .int .u8 0, .int .u8 0, .int .u8 0, .int .u8 0, .int .u8 0, .int .u8 0, .int .u8 0, .int .u8 0, .int .u8 0, .int .u8 0, .int .u8 0, .int .u8 0, .int .u8 0, .int .u8 0, .int .u8 0, .int .u8 0, .int .u8 0, .int .u8 0, .int .u8 0]) := by kernel_rfl
theorem sz115 : psize? Tryd.prog 115 = some 1 := by kernel_rfl
theorem pb115 : pbytes? Tryd.prog 115 = some 4 := by kernel_rfl
theorem zv115 : zeroV Tryd.prog 115 = some (.int .u32 0) := by kernel_rfl
theorem zv116 : zeroV Tryd.prog 116 = some (.tuple #[.int .u32 0, .int .u32 0]) := by kernel_rfl
theorem sz117 : psize? Tryd.prog 117 = some 1 := by kernel_rfl
theorem pb117 : pbytes? Tryd.prog 117 = some 8 := by kernel_rfl
theorem zv117 : zeroV Tryd.prog 117 = some .nilFunc := by kernel_rfl
theorem sz118 : psize? Tryd.prog 118 = some 4 := by kernel_rfl
theorem pb118 : pbytes? Tryd.prog 118 = some 40 := by kernel_rfl
theorem zv118 : zeroV Tryd.prog 118 = some (.agg #[.pointer none, .pointer none, .pointer none, .string ⟨#[]⟩]) := by kernel_rfl
theorem sz119 : psize? Tryd.prog 119 = some 4 := by kernel_rfl
theorem pb119 : pbytes? Tryd.prog 119 = some 40 := by kernel_rfl
theorem zv119 : zeroV Tryd.prog 119 = some (.agg #[.pointer none, .pointer none, .pointer none, .string ⟨#[]⟩]) := by kernel_rfl
theorem sz120 : psize? Tryd.prog 120 = some 0 := by kernel_rfl
theorem pb120 : pbytes? Tryd.prog 120 = some 0 := by kernel_rfl
theorem zv120 : zeroV Tryd.prog 120 = some (.agg #[]) := by kernel_rfl
theorem sz121 : psize? Tryd.prog 121 = some 0 := by kernel_rfl
theorem pb121 : pbytes? Tryd.prog 121 = some 0 := by kernel_rfl
theorem zv121 : zeroV Tryd.prog 121 = some (.agg #[]) := by kernel_rfl
theorem sz122 : psize? Tryd.prog 122 = some 0 := by kernel_rfl
theorem pb122 : pbytes? Tryd.prog 122 = some 0 := by kernel_rfl
theorem zv122 : zeroV Tryd.prog 122 = some (.agg #[]) := by kernel_rfl
theorem sz123 : psize? Tryd.prog 123 = some 1 := by kernel_rfl
theorem pb123 : pbytes? Tryd.prog 123 = some 8 := by kernel_rfl
theorem zv123 : zeroV Tryd.prog 123 = some .nilFunc := by kernel_rfl
theorem sz124 : psize? Tryd.prog 124 = some 1 := by kernel_rfl
theorem pb124 : pbytes? Tryd.prog 124 = some 8 := by kernel_rfl
theorem zv124 : zeroV Tryd.prog 124 = some .nilFunc := by kernel_rfl
theorem sz125 : psize? Tryd.prog 125 = some 1 := by kernel_rfl
theorem pb125 : pbytes? Tryd.prog 125 = some 1 := by kernel_rfl
theorem zv125 : zeroV Tryd.prog 125 = some (.int .u8 0) := by kernel_rfl
theorem sz126 : psize? Tryd.prog 126 = some 1 := by kernel_rfl
theorem pb126 : pbytes? Tryd.prog 126 = some 8 := by kernel_rfl
theorem zv126 : zeroV Tryd.prog 126 = some .nilFunc := by kernel_rfl
theorem sz127 : psize? Tryd.prog 127 = some 1 := by kernel_rfl
theorem pb127 : pbytes? Tryd.prog 127 = some 4 := by kernel_rfl
theorem zv127 : zeroV Tryd.prog 127 = some (.int .i32 0) := by kernel_rfl
theorem sz128 : psize? Tryd.prog 128 = some 1 := by kernel_rfl
theorem pb128 : pbytes? Tryd.prog 128 = some 4 := by kernel_rfl
theorem zv128 : zeroV Tryd.prog 128 = some (.int .i32 0) := by kernel_rfl
theorem sz129 : psize? Tryd.prog 129 = some 11 := by kernel_rfl
theorem pb129 : pbytes? Tryd.prog 129 = some 48 := by kernel_rfl
theorem zv129 : zeroV Tryd.prog 129 = some (.agg #[.int .u64 0, .int .u64 0, .int .u32 0, .int .u8 0, .int .u8 0, .int .u8 0, .int .u8 0, .nilFunc, .pointer none, .int .i32 0, .int .i32 0]) := by kernel_rfl
theorem sz130 : psize? Tryd.prog 130 = some 11 := by kernel_rfl
theorem pb130 : pbytes? Tryd.prog 130 = some 48 := by kernel_rfl
theorem zv130 : zeroV Tryd.prog 130 = some (.agg #[.int .u64 0, .int .u64 0, .int .u32 0, .int .u8 0, .int .u8 0, .int .u8 0, .int .u8 0, .nilFunc, .pointer none, .int .i32 0, .int .i32 0]) := by kernel_rfl
theorem sz131 : psize? Tryd.prog 131 = some 1 := by kernel_rfl
theorem pb131 : pbytes? Tryd.prog 131 = some 8 := by kernel_rfl
theorem zv131 : zeroV Tryd.prog 131 = some .nilFunc := by kernel_rfl
theorem sz132 : psize? Tryd.prog 132 = some 1 := by kernel_rfl
theorem pb132 : pbytes? Tryd.prog 132 = some 8 := by kernel_rfl
theorem zv132 : zeroV Tryd.prog 132 = some .nilFunc := by kernel_rfl
theorem sz133 : psize? Tryd.prog 133 = some 2 := by kernel_rfl
theorem pb133 : pbytes? Tryd.prog 133 = some 24 := by kernel_rfl
theorem zv133 : zeroV Tryd.prog 133 = some (.agg #[.string ⟨#[]⟩, .int .u8 0]) := by kernel_rfl
theorem sz134 : psize? Tryd.prog 134 = some 2 := by kernel_rfl
theorem pb134 : pbytes? Tryd.prog 134 = some 24 := by kernel_rfl
theorem zv134 : zeroV Tryd.prog 134 = some (.agg #[.string ⟨#[]⟩, .int .u8 0]) := by kernel_rfl
theorem sz135 : psize? Tryd.prog 135 = some 1 := by kernel_rfl
theorem pb135 : pbytes? Tryd.prog 135 = some 8 := by kernel_rfl
theorem zv135 : zeroV Tryd.prog 135 = some (.pointer none) := by kernel_rfl
theorem sz136 : psize? Tryd.prog 136 = some 1 := by kernel_rfl
theorem pb136 : pbytes? Tryd.prog 136 = some 8 := by kernel_rfl
theorem zv136 : zeroV Tryd.prog 136 = some .nilFunc := by kernel_rfl
theorem sz137 : psize? Tryd.prog 137 = some 5 := by kernel_rfl
theorem pb137 : pbytes? Tryd.prog 137 = some 16 := by kernel_rfl
theorem zv137 : zeroV Tryd.prog 137 = some (.agg #[.int .i32 0, .int .u16 0, .int .u16 0, .int .u32 0, .int .u32 0]) := by kernel_rfl
theorem sz138 : psize? Tryd.prog 138 = some 5 := by kernel_rfl
theorem pb138 : pbytes? Tryd.prog 138 = some 16 := by kernel_rfl
theorem zv138 : zeroV Tryd.prog 138 = some (.agg #[.int .i32 0, .int .u16 0, .int .u16 0, .int .u32 0, .int .u32 0]) := by kernel_rfl
theorem sz139 : psize? Tryd.prog 139 = some 1 := by kernel_rfl
theorem pb139 : pbytes? Tryd.prog 139 = some 24 := by kernel_rfl
theorem zv139 : zeroV Tryd.prog 139 = some (.slice none 0 0) := by kernel_rfl
theorem sz140 : psize? Tryd.prog 140 = some 1 := by kernel_rfl
theorem pb140 : pbytes? Tryd.prog 140 = some 4 := by kernel_rfl
theorem zv140 : zeroV Tryd.prog 140 = some (.int .i32 0) := by kernel_rfl
theorem sz141 : psize? Tryd.prog 141 = some 4 := by kernel_rfl
theorem pb141 : pbytes? Tryd.prog 141 = some 16 := by kernel_rfl
theorem zv141 : zeroV Tryd.prog 141 = some (.agg #[.int .i32 0, .int .i32 0, .int .i32 0, .int .i32 0]) := by kernel_rfl
theorem sz142 : psize? Tryd.prog 142 = some 4 := by kernel_rfl
theorem pb142 : pbytes? Tryd.prog 142 = some 16 := by kernel_rfl
theorem zv142 : zeroV Tryd.prog 142 = some (.agg #[.int .i32 0, .int .i32 0, .int .i32 0, .int .i32 0]) := by kernel_rfl
theorem sz143 : psize? Tryd.prog 143 = some 1 := by kernel_rfl
theorem pb143 : pbytes? Tryd.prog 143 = some 8 := by kernel_rfl
theorem zv143 : zeroV Tryd.prog 143 = some .nilFunc := by kernel_rfl
theorem sz144 : psize? Tryd.prog 144 = some 1 := by kernel_rfl
theorem pb144 : pbytes? Tryd.prog 144 = some 8 := by kernel_rfl
theorem zv144 : zeroV Tryd.prog 144 = some .nilFunc := by kernel_rfl
theorem zv145 : zeroV Tryd.prog 145 = some (.tuple #[.string ⟨#[]⟩, .bool false]) := by kernel_rfl
theorem sz146 : psize? Tryd.prog 146 = some 1 := by kernel_rfl
theorem pb146 : pbytes? Tryd.prog 146 = some 8 := by kernel_rfl
theorem zv146 : zeroV Tryd.prog 146 = some .nilFunc := by kernel_rfl
theorem sz147 : psize? Tryd.prog 147 = some 1 := by kernel_rfl
theorem pb147 : pbytes? Tryd.prog 147 = some 8 := by kernel_rfl
theorem zv147 : zeroV Tryd.prog 147 = some .nilFunc := by kernel_rfl
theorem sz148 : psize? Tryd.prog 148 = some 1 := by kernel_rfl
theorem pb148 : pbytes? Tryd.prog 148 = some 8 := by kernel_rfl
theorem zv148 : zeroV Tryd.prog 148 = some .nilFunc := by kernel_rfl
theorem sz149 : psize? Tryd.prog 149 = some 1 := by kernel_rfl
theorem pb149 : pbytes? Tryd.prog 149 = some 8 := by kernel_rfl
theorem zv149 : zeroV Tryd.prog 149 = some (.pointer none) := by kernel_rfl
theorem hm : Tryd.prog.follows .mixedOrders = true := by kernel_rfl
end Go.Proofs.YtcanebnegfnhdaaDoor
