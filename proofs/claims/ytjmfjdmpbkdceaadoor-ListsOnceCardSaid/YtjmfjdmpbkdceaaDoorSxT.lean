/-
  Closed facts on this program's functions and types.
-/
import Derived.Test.YtjmfjdmpbkdceaaDoorProg
import Derived.Test.YtjmfjdmpbkdceaaDoorSxEq
namespace Go.Proofs.YtjmfjdmpbkdceaaDoor
open Go.Sx
theorem go3 : GoFn Tryd.prog 3 := ⟨Tryd.f3, Tryd.func3, rfl, by kernel_rfl⟩
theorem go4 : GoFn Tryd.prog 4 := ⟨Tryd.f4, Tryd.func4, rfl, by kernel_rfl⟩
theorem go5 : GoFn Tryd.prog 5 := ⟨Tryd.f5, Tryd.func5, rfl, by kernel_rfl⟩
theorem go6 : GoFn Tryd.prog 6 := ⟨Tryd.f6, Tryd.func6, rfl, by kernel_rfl⟩
theorem go7 : GoFn Tryd.prog 7 := ⟨Tryd.f7, Tryd.func7, rfl, by kernel_rfl⟩
theorem go8 : GoFn Tryd.prog 8 := ⟨Tryd.f8, Tryd.func8, rfl, by kernel_rfl⟩
theorem go9 : GoFn Tryd.prog 9 := ⟨Tryd.f9, Tryd.func9, rfl, by kernel_rfl⟩
theorem go10 : GoFn Tryd.prog 10 := ⟨Tryd.f10, Tryd.func10, rfl, by kernel_rfl⟩
theorem go11 : GoFn Tryd.prog 11 := ⟨Tryd.f11, Tryd.func11, rfl, by kernel_rfl⟩
theorem go12 : GoFn Tryd.prog 12 := ⟨Tryd.f12, Tryd.func12, rfl, by kernel_rfl⟩
theorem go13 : GoFn Tryd.prog 13 := ⟨Tryd.f13, Tryd.func13, rfl, by kernel_rfl⟩
theorem go14 : GoFn Tryd.prog 14 := ⟨Tryd.f14, Tryd.func14, rfl, by kernel_rfl⟩
theorem go15 : GoFn Tryd.prog 15 := ⟨Tryd.f15, Tryd.func15, rfl, by kernel_rfl⟩
theorem go16 : GoFn Tryd.prog 16 := ⟨Tryd.f16, Tryd.func16, rfl, by kernel_rfl⟩
theorem go17 : GoFn Tryd.prog 17 := ⟨Tryd.f17, Tryd.func17, rfl, by kernel_rfl⟩
theorem go18 : GoFn Tryd.prog 18 := ⟨Tryd.f18, Tryd.func18, rfl, by kernel_rfl⟩
theorem go19 : GoFn Tryd.prog 19 := ⟨Tryd.f19, Tryd.func19, rfl, by kernel_rfl⟩
theorem go20 : GoFn Tryd.prog 20 := ⟨Tryd.f20, Tryd.func20, rfl, by kernel_rfl⟩
theorem go21 : GoFn Tryd.prog 21 := ⟨Tryd.f21, Tryd.func21, rfl, by kernel_rfl⟩
theorem go22 : GoFn Tryd.prog 22 := ⟨Tryd.f22, Tryd.func22, rfl, by kernel_rfl⟩
theorem go23 : GoFn Tryd.prog 23 := ⟨Tryd.f23, Tryd.func23, rfl, by kernel_rfl⟩
theorem go24 : GoFn Tryd.prog 24 := ⟨Tryd.f24, Tryd.func24, rfl, by kernel_rfl⟩
theorem go25 : GoFn Tryd.prog 25 := ⟨Tryd.f25, Tryd.func25, rfl, by kernel_rfl⟩
theorem go26 : GoFn Tryd.prog 26 := ⟨Tryd.f26, Tryd.func26, rfl, by kernel_rfl⟩
theorem go27 : GoFn Tryd.prog 27 := ⟨Tryd.f27, Tryd.func27, rfl, by kernel_rfl⟩
theorem go28 : GoFn Tryd.prog 28 := ⟨Tryd.f28, Tryd.func28, rfl, by kernel_rfl⟩
theorem go29 : GoFn Tryd.prog 29 := ⟨Tryd.f29, Tryd.func29, rfl, by kernel_rfl⟩
theorem go30 : GoFn Tryd.prog 30 := ⟨Tryd.f30, Tryd.func30, rfl, by kernel_rfl⟩
theorem go31 : GoFn Tryd.prog 31 := ⟨Tryd.f31, Tryd.func31, rfl, by kernel_rfl⟩
theorem go32 : GoFn Tryd.prog 32 := ⟨Tryd.f32, Tryd.func32, rfl, by kernel_rfl⟩
theorem go33 : GoFn Tryd.prog 33 := ⟨Tryd.f33, Tryd.func33, rfl, by kernel_rfl⟩
theorem go34 : GoFn Tryd.prog 34 := ⟨Tryd.f34, Tryd.func34, rfl, by kernel_rfl⟩
theorem go35 : GoFn Tryd.prog 35 := ⟨Tryd.f35, Tryd.func35, rfl, by kernel_rfl⟩
theorem go36 : GoFn Tryd.prog 36 := ⟨Tryd.f36, Tryd.func36, rfl, by kernel_rfl⟩
theorem go37 : GoFn Tryd.prog 37 := ⟨Tryd.f37, Tryd.func37, rfl, by kernel_rfl⟩
theorem go38 : GoFn Tryd.prog 38 := ⟨Tryd.f38, Tryd.func38, rfl, by kernel_rfl⟩
theorem go39 : GoFn Tryd.prog 39 := ⟨Tryd.f39, Tryd.func39, rfl, by kernel_rfl⟩
theorem go40 : GoFn Tryd.prog 40 := ⟨Tryd.f40, Tryd.func40, rfl, by kernel_rfl⟩
theorem go41 : GoFn Tryd.prog 41 := ⟨Tryd.f41, Tryd.func41, rfl, by kernel_rfl⟩
theorem go42 : GoFn Tryd.prog 42 := ⟨Tryd.f42, Tryd.func42, rfl, by kernel_rfl⟩
theorem go43 : GoFn Tryd.prog 43 := ⟨Tryd.f43, Tryd.func43, rfl, by kernel_rfl⟩
theorem go44 : GoFn Tryd.prog 44 := ⟨Tryd.f44, Tryd.func44, rfl, by kernel_rfl⟩
theorem go45 : GoFn Tryd.prog 45 := ⟨Tryd.f45, Tryd.func45, rfl, by kernel_rfl⟩
theorem go46 : GoFn Tryd.prog 46 := ⟨Tryd.f46, Tryd.func46, rfl, by kernel_rfl⟩
theorem go47 : GoFn Tryd.prog 47 := ⟨Tryd.f47, Tryd.func47, rfl, by kernel_rfl⟩
theorem go48 : GoFn Tryd.prog 48 := ⟨Tryd.f48, Tryd.func48, rfl, by kernel_rfl⟩
theorem go49 : GoFn Tryd.prog 49 := ⟨Tryd.f49, Tryd.func49, rfl, by kernel_rfl⟩
theorem go50 : GoFn Tryd.prog 50 := ⟨Tryd.f50, Tryd.func50, rfl, by kernel_rfl⟩
theorem go53 : GoFn Tryd.prog 53 := ⟨Tryd.f53, Tryd.func53, rfl, by kernel_rfl⟩
theorem go54 : GoFn Tryd.prog 54 := ⟨Tryd.f54, Tryd.func54, rfl, by kernel_rfl⟩
theorem go55 : GoFn Tryd.prog 55 := ⟨Tryd.f55, Tryd.func55, rfl, by kernel_rfl⟩
theorem go57 : GoFn Tryd.prog 57 := ⟨Tryd.f57, Tryd.func57, rfl, by kernel_rfl⟩
theorem go58 : GoFn Tryd.prog 58 := ⟨Tryd.f58, Tryd.func58, rfl, by kernel_rfl⟩
theorem go60 : GoFn Tryd.prog 60 := ⟨Tryd.f60, Tryd.func60, rfl, by kernel_rfl⟩
theorem ext59 : ExtFn Tryd.prog 59 Extern.BytealgIndexByte.indexByte := ⟨Tryd.f59, Tryd.func59, by kernel_rfl, by kernel_rfl, by kernel_rfl, by kernel_rfl⟩
theorem zv0 : zeroV Tryd.prog 0 = some (.tuple #[]) := by kernel_rfl
theorem sz1 : psize? Tryd.prog 1 = some 1 := by kernel_rfl
theorem pb1 : pbytes? Tryd.prog 1 = some 8 := by kernel_rfl
theorem zv1 : zeroV Tryd.prog 1 = some .nilFunc := by kernel_rfl
theorem sz2 : psize? Tryd.prog 2 = some 1 := by kernel_rfl
theorem pb2 : pbytes? Tryd.prog 2 = some 8 := by kernel_rfl
theorem zv2 : zeroV Tryd.prog 2 = some (.int .i64 0) := by kernel_rfl
theorem sz3 : psize? Tryd.prog 3 = some 1 := by kernel_rfl
theorem pb3 : pbytes? Tryd.prog 3 = some 8 := by kernel_rfl
theorem zv3 : zeroV Tryd.prog 3 = some (.int .i64 0) := by kernel_rfl
theorem sz4 : psize? Tryd.prog 4 = some 1 := by kernel_rfl
theorem pb4 : pbytes? Tryd.prog 4 = some 1 := by kernel_rfl
theorem zv4 : zeroV Tryd.prog 4 = some (.bool false) := by kernel_rfl
theorem sz5 : psize? Tryd.prog 5 = some 1 := by kernel_rfl
theorem pb5 : pbytes? Tryd.prog 5 = some 1 := by kernel_rfl
theorem zv5 : zeroV Tryd.prog 5 = some (.int .u8 0) := by kernel_rfl
theorem sz6 : psize? Tryd.prog 6 = some 1 := by kernel_rfl
theorem pb6 : pbytes? Tryd.prog 6 = some 1 := by kernel_rfl
theorem zv6 : zeroV Tryd.prog 6 = some (.int .u8 0) := by kernel_rfl
theorem sz7 : psize? Tryd.prog 7 = some 4 := by kernel_rfl
theorem pb7 : pbytes? Tryd.prog 7 = some 24 := by kernel_rfl
theorem zv7 : zeroV Tryd.prog 7 = some (.agg #[.int .i64 0, .int .i64 0, .bool false, .int .u8 0]) := by kernel_rfl
theorem sz8 : psize? Tryd.prog 8 = some 4 := by kernel_rfl
theorem pb8 : pbytes? Tryd.prog 8 = some 24 := by kernel_rfl
theorem zv8 : zeroV Tryd.prog 8 = some (.agg #[.int .i64 0, .int .i64 0, .bool false, .int .u8 0]) := by kernel_rfl
theorem sz9 : psize? Tryd.prog 9 = some 1 := by kernel_rfl
theorem pb9 : pbytes? Tryd.prog 9 = some 16 := by kernel_rfl
theorem zv9 : zeroV Tryd.prog 9 = some (.string ⟨#[]⟩) := by kernel_rfl
theorem sz10 : psize? Tryd.prog 10 = some 1 := by kernel_rfl
theorem pb10 : pbytes? Tryd.prog 10 = some 16 := by kernel_rfl
theorem zv10 : zeroV Tryd.prog 10 = some (.string ⟨#[]⟩) := by kernel_rfl
theorem sz11 : psize? Tryd.prog 11 = some 1 := by kernel_rfl
theorem pb11 : pbytes? Tryd.prog 11 = some 16 := by kernel_rfl
theorem zv11 : zeroV Tryd.prog 11 = some (.string ⟨#[]⟩) := by kernel_rfl
theorem sz12 : psize? Tryd.prog 12 = some 1 := by kernel_rfl
theorem pb12 : pbytes? Tryd.prog 12 = some 8 := by kernel_rfl
theorem zv12 : zeroV Tryd.prog 12 = some (.int .u64 0) := by kernel_rfl
theorem sz13 : psize? Tryd.prog 13 = some 2 := by kernel_rfl
theorem pb13 : pbytes? Tryd.prog 13 = some 24 := by kernel_rfl
theorem zv13 : zeroV Tryd.prog 13 = some (.agg #[.string ⟨#[]⟩, .int .u64 0]) := by kernel_rfl
theorem sz14 : psize? Tryd.prog 14 = some 2 := by kernel_rfl
theorem pb14 : pbytes? Tryd.prog 14 = some 24 := by kernel_rfl
theorem zv14 : zeroV Tryd.prog 14 = some (.agg #[.string ⟨#[]⟩, .int .u64 0]) := by kernel_rfl
theorem sz15 : psize? Tryd.prog 15 = some 1 := by kernel_rfl
theorem pb15 : pbytes? Tryd.prog 15 = some 8 := by kernel_rfl
theorem zv15 : zeroV Tryd.prog 15 = some (.pointer none) := by kernel_rfl
theorem sz16 : psize? Tryd.prog 16 = some 1 := by kernel_rfl
theorem pb16 : pbytes? Tryd.prog 16 = some 8 := by kernel_rfl
theorem zv16 : zeroV Tryd.prog 16 = some (.pointer none) := by kernel_rfl
theorem sz17 : psize? Tryd.prog 17 = some 1 := by kernel_rfl
theorem pb17 : pbytes? Tryd.prog 17 = some 8 := by kernel_rfl
theorem zv17 : zeroV Tryd.prog 17 = some (.pointer none) := by kernel_rfl
theorem sz18 : psize? Tryd.prog 18 = some 1 := by kernel_rfl
theorem pb18 : pbytes? Tryd.prog 18 = some 8 := by kernel_rfl
theorem zv18 : zeroV Tryd.prog 18 = some (.agg #[.pointer none]) := by kernel_rfl
theorem sz19 : psize? Tryd.prog 19 = some 1 := by kernel_rfl
theorem pb19 : pbytes? Tryd.prog 19 = some 8 := by kernel_rfl
theorem zv19 : zeroV Tryd.prog 19 = some (.agg #[.pointer none]) := by kernel_rfl
theorem sz20 : psize? Tryd.prog 20 = some 1 := by kernel_rfl
theorem pb20 : pbytes? Tryd.prog 20 = some 16 := by kernel_rfl
theorem zv20 : zeroV Tryd.prog 20 = some .nilIface := by kernel_rfl
theorem sz21 : psize? Tryd.prog 21 = some 1 := by kernel_rfl
theorem pb21 : pbytes? Tryd.prog 21 = some 4 := by kernel_rfl
theorem zv21 : zeroV Tryd.prog 21 = some (.int .i32 0) := by kernel_rfl
theorem sz22 : psize? Tryd.prog 22 = some 1 := by kernel_rfl
theorem pb22 : pbytes? Tryd.prog 22 = some 24 := by kernel_rfl
theorem zv22 : zeroV Tryd.prog 22 = some (.slice none 0 0) := by kernel_rfl
theorem sz23 : psize? Tryd.prog 23 = some 1 := by kernel_rfl
theorem pb23 : pbytes? Tryd.prog 23 = some 8 := by kernel_rfl
theorem zv23 : zeroV Tryd.prog 23 = some .nilFunc := by kernel_rfl
theorem sz24 : psize? Tryd.prog 24 = some 1 := by kernel_rfl
theorem pb24 : pbytes? Tryd.prog 24 = some 8 := by kernel_rfl
theorem zv24 : zeroV Tryd.prog 24 = some .nilFunc := by kernel_rfl
theorem zv25 : zeroV Tryd.prog 25 = some (.tuple #[.slice none 0 0, .bool false]) := by kernel_rfl
theorem sz26 : psize? Tryd.prog 26 = some 1 := by kernel_rfl
theorem pb26 : pbytes? Tryd.prog 26 = some 8 := by kernel_rfl
theorem zv26 : zeroV Tryd.prog 26 = some .nilFunc := by kernel_rfl
theorem sz27 : psize? Tryd.prog 27 = some 1 := by kernel_rfl
theorem pb27 : pbytes? Tryd.prog 27 = some 8 := by kernel_rfl
theorem zv27 : zeroV Tryd.prog 27 = some .nilFunc := by kernel_rfl
theorem sz28 : psize? Tryd.prog 28 = some 1 := by kernel_rfl
theorem pb28 : pbytes? Tryd.prog 28 = some 8 := by kernel_rfl
theorem zv28 : zeroV Tryd.prog 28 = some .nilFunc := by kernel_rfl
theorem sz29 : psize? Tryd.prog 29 = some 1 := by kernel_rfl
theorem pb29 : pbytes? Tryd.prog 29 = some 8 := by kernel_rfl
theorem zv29 : zeroV Tryd.prog 29 = some .nilFunc := by kernel_rfl
theorem sz30 : psize? Tryd.prog 30 = some 1 := by kernel_rfl
theorem pb30 : pbytes? Tryd.prog 30 = some 8 := by kernel_rfl
theorem zv30 : zeroV Tryd.prog 30 = some .nilFunc := by kernel_rfl
theorem sz31 : psize? Tryd.prog 31 = some 1 := by kernel_rfl
theorem pb31 : pbytes? Tryd.prog 31 = some 8 := by kernel_rfl
theorem zv31 : zeroV Tryd.prog 31 = some .nilFunc := by kernel_rfl
theorem sz32 : psize? Tryd.prog 32 = some 1 := by kernel_rfl
theorem pb32 : pbytes? Tryd.prog 32 = some 8 := by kernel_rfl
theorem zv32 : zeroV Tryd.prog 32 = some .nilFunc := by kernel_rfl
theorem sz33 : psize? Tryd.prog 33 = some 1 := by kernel_rfl
theorem pb33 : pbytes? Tryd.prog 33 = some 8 := by kernel_rfl
theorem zv33 : zeroV Tryd.prog 33 = some .nilFunc := by kernel_rfl
theorem sz34 : psize? Tryd.prog 34 = some 1 := by kernel_rfl
theorem pb34 : pbytes? Tryd.prog 34 = some 8 := by kernel_rfl
theorem zv34 : zeroV Tryd.prog 34 = some .nilFunc := by kernel_rfl
theorem sz35 : psize? Tryd.prog 35 = some 1 := by kernel_rfl
theorem pb35 : pbytes? Tryd.prog 35 = some 8 := by kernel_rfl
theorem zv35 : zeroV Tryd.prog 35 = some .nilFunc := by kernel_rfl
theorem sz36 : psize? Tryd.prog 36 = some 1 := by kernel_rfl
theorem pb36 : pbytes? Tryd.prog 36 = some 8 := by kernel_rfl
theorem zv36 : zeroV Tryd.prog 36 = some .nilFunc := by kernel_rfl
theorem sz37 : psize? Tryd.prog 37 = some 1 := by kernel_rfl
theorem pb37 : pbytes? Tryd.prog 37 = some 8 := by kernel_rfl
theorem zv37 : zeroV Tryd.prog 37 = some .nilFunc := by kernel_rfl
theorem sz38 : psize? Tryd.prog 38 = some 1 := by kernel_rfl
theorem pb38 : pbytes? Tryd.prog 38 = some 8 := by kernel_rfl
theorem zv38 : zeroV Tryd.prog 38 = some .nilFunc := by kernel_rfl
theorem sz39 : psize? Tryd.prog 39 = some 1 := by kernel_rfl
theorem pb39 : pbytes? Tryd.prog 39 = some 8 := by kernel_rfl
theorem zv39 : zeroV Tryd.prog 39 = some .nilFunc := by kernel_rfl
theorem sz40 : psize? Tryd.prog 40 = some 1 := by kernel_rfl
theorem pb40 : pbytes? Tryd.prog 40 = some 8 := by kernel_rfl
theorem zv40 : zeroV Tryd.prog 40 = some .nilFunc := by kernel_rfl
theorem sz41 : psize? Tryd.prog 41 = some 1 := by kernel_rfl
theorem pb41 : pbytes? Tryd.prog 41 = some 8 := by kernel_rfl
theorem zv41 : zeroV Tryd.prog 41 = some .nilFunc := by kernel_rfl
theorem sz42 : psize? Tryd.prog 42 = some 1 := by kernel_rfl
theorem pb42 : pbytes? Tryd.prog 42 = some 8 := by kernel_rfl
theorem zv42 : zeroV Tryd.prog 42 = some .nilFunc := by kernel_rfl
theorem sz43 : psize? Tryd.prog 43 = some 1 := by kernel_rfl
theorem pb43 : pbytes? Tryd.prog 43 = some 8 := by kernel_rfl
theorem zv43 : zeroV Tryd.prog 43 = some .nilFunc := by kernel_rfl
theorem sz44 : psize? Tryd.prog 44 = some 1 := by kernel_rfl
theorem pb44 : pbytes? Tryd.prog 44 = some 24 := by kernel_rfl
theorem zv44 : zeroV Tryd.prog 44 = some (.slice none 0 0) := by kernel_rfl
theorem sz45 : psize? Tryd.prog 45 = some 1 := by kernel_rfl
theorem pb45 : pbytes? Tryd.prog 45 = some 8 := by kernel_rfl
theorem zv45 : zeroV Tryd.prog 45 = some .nilFunc := by kernel_rfl
theorem sz46 : psize? Tryd.prog 46 = some 1 := by kernel_rfl
theorem pb46 : pbytes? Tryd.prog 46 = some 8 := by kernel_rfl
theorem zv46 : zeroV Tryd.prog 46 = some .nilFunc := by kernel_rfl
theorem sz47 : psize? Tryd.prog 47 = some 1 := by kernel_rfl
theorem pb47 : pbytes? Tryd.prog 47 = some 8 := by kernel_rfl
theorem zv47 : zeroV Tryd.prog 47 = some .nilFunc := by kernel_rfl
theorem sz48 : psize? Tryd.prog 48 = some 1 := by kernel_rfl
theorem pb48 : pbytes? Tryd.prog 48 = some 8 := by kernel_rfl
theorem zv48 : zeroV Tryd.prog 48 = some .nilFunc := by kernel_rfl
theorem sz49 : psize? Tryd.prog 49 = some 1 := by kernel_rfl
theorem pb49 : pbytes? Tryd.prog 49 = some 8 := by kernel_rfl
theorem zv49 : zeroV Tryd.prog 49 = some .nilFunc := by kernel_rfl
theorem sz50 : psize? Tryd.prog 50 = some 1 := by kernel_rfl
theorem pb50 : pbytes? Tryd.prog 50 = some 8 := by kernel_rfl
theorem zv50 : zeroV Tryd.prog 50 = some (.pointer none) := by kernel_rfl
theorem sz51 : psize? Tryd.prog 51 = some 2 := by kernel_rfl
theorem pb51 : pbytes? Tryd.prog 51 = some 32 := by kernel_rfl
theorem zv51 : zeroV Tryd.prog 51 = some (.agg #[.pointer none, .slice none 0 0]) := by kernel_rfl
theorem sz52 : psize? Tryd.prog 52 = some 2 := by kernel_rfl
theorem pb52 : pbytes? Tryd.prog 52 = some 32 := by kernel_rfl
theorem zv52 : zeroV Tryd.prog 52 = some (.agg #[.pointer none, .slice none 0 0]) := by kernel_rfl
theorem sz53 : psize? Tryd.prog 53 = some 1 := by kernel_rfl
theorem pb53 : pbytes? Tryd.prog 53 = some 8 := by kernel_rfl
theorem zv53 : zeroV Tryd.prog 53 = some .nilFunc := by kernel_rfl
theorem sz54 : psize? Tryd.prog 54 = some 1 := by kernel_rfl
theorem pb54 : pbytes? Tryd.prog 54 = some 16 := by kernel_rfl
theorem zv54 : zeroV Tryd.prog 54 = some .nilIface := by kernel_rfl
theorem sz55 : psize? Tryd.prog 55 = some 1 := by kernel_rfl
theorem pb55 : pbytes? Tryd.prog 55 = some 16 := by kernel_rfl
theorem zv55 : zeroV Tryd.prog 55 = some .nilIface := by kernel_rfl
theorem zv56 : zeroV Tryd.prog 56 = some (.tuple #[.int .i64 0, .nilIface]) := by kernel_rfl
theorem sz57 : psize? Tryd.prog 57 = some 1 := by kernel_rfl
theorem pb57 : pbytes? Tryd.prog 57 = some 8 := by kernel_rfl
theorem zv57 : zeroV Tryd.prog 57 = some .nilFunc := by kernel_rfl
theorem sz58 : psize? Tryd.prog 58 = some 1 := by kernel_rfl
theorem pb58 : pbytes? Tryd.prog 58 = some 8 := by kernel_rfl
theorem zv58 : zeroV Tryd.prog 58 = some .nilFunc := by kernel_rfl
theorem sz59 : psize? Tryd.prog 59 = some 1 := by kernel_rfl
theorem pb59 : pbytes? Tryd.prog 59 = some 8 := by kernel_rfl
theorem zv59 : zeroV Tryd.prog 59 = some .nilFunc := by kernel_rfl
theorem sz60 : psize? Tryd.prog 60 = some 1 := by kernel_rfl
theorem pb60 : pbytes? Tryd.prog 60 = some 8 := by kernel_rfl
theorem zv60 : zeroV Tryd.prog 60 = some .nilFunc := by kernel_rfl
theorem sz61 : psize? Tryd.prog 61 = some 1 := by kernel_rfl
theorem pb61 : pbytes? Tryd.prog 61 = some 8 := by kernel_rfl
theorem zv61 : zeroV Tryd.prog 61 = some (.pointer none) := by kernel_rfl
theorem zv62 : zeroV Tryd.prog 62 = some (.tuple #[.int .i32 0, .int .i64 0]) := by kernel_rfl
theorem sz63 : psize? Tryd.prog 63 = some 1 := by kernel_rfl
theorem pb63 : pbytes? Tryd.prog 63 = some 8 := by kernel_rfl
theorem zv63 : zeroV Tryd.prog 63 = some .nilFunc := by kernel_rfl
theorem sz64 : psize? Tryd.prog 64 = some 1 := by kernel_rfl
theorem pb64 : pbytes? Tryd.prog 64 = some 8 := by kernel_rfl
theorem zv64 : zeroV Tryd.prog 64 = some .nilFunc := by kernel_rfl
theorem sz65 : psize? Tryd.prog 65 = some 1 := by kernel_rfl
theorem pb65 : pbytes? Tryd.prog 65 = some 8 := by kernel_rfl
theorem zv65 : zeroV Tryd.prog 65 = some (.pointer none) := by kernel_rfl
theorem sz66 : psize? Tryd.prog 66 = some 1 := by kernel_rfl
theorem pb66 : pbytes? Tryd.prog 66 = some 8 := by kernel_rfl
theorem zv66 : zeroV Tryd.prog 66 = some .nilFunc := by kernel_rfl
theorem sz67 : psize? Tryd.prog 67 = some 1 := by kernel_rfl
theorem pb67 : pbytes? Tryd.prog 67 = some 8 := by kernel_rfl
theorem zv67 : zeroV Tryd.prog 67 = some .nilFunc := by kernel_rfl
theorem sz68 : psize? Tryd.prog 68 = some 256 := by kernel_rfl
theorem pb68 : pbytes? Tryd.prog 68 = some 256 := by kernel_rfl
theorem zv68 : zeroV Tryd.prog 68 = some (.agg #[.int .u8 0, .int .u8 0, .int .u8 0, .int .u8 0, .int .u8 0, .int .u8 0, .int .u8 0, .int .u8 0, .int .u8 0, .int .u8 0, .int .u8 0, .int .u8 0, .int .u8 0, .int .u8 0, .int .u8 0, .int .u8 0, .int .u8 0, .int .u8 0, .int .u8 0, .int .u8 0, .int .u8 0, .int .u8 0, .int .u8 0, .int .u8 0, .int .u8 0, .int .u8 0, .int .u8 0, .int .u8 0, .int .u8 0, .int .u8 0, .int .u8 0, .int .u8 0, .int .u8 0, .int .u8 0, .int .u8 0, .int .u8 0, .int .u8 0, .int .u8 0, .int .u8 0, .int .u8 0, .int .u8 0, .int .u8 0, .int .u8 0, .int .u8 0, .int .u8 0, .int .u8 0, .int .u8 0, .int .u8 0, .int .u8 0, .int .u8 0, .int .u8 0, .int .u8 0, .int .u8 0, .int .u8 0, .int .u8 0, .int .u8 0, .int .u8 0, .int .u8 0, .int .u8 0, .int .u8 0, .int .u8 0, .int .u8 0, .int .u8 0, .int .u8 0, .int .u8 0, .int .u8 0, .int .u8 0, .int .u8 0, .int .u8 0, .int .u8 0, .int .u8 0, .int .u8 0, .int .u8 0, .int .u8 0, .int .u8 0, .int .u8 0, .int .u8 0, .int .u8 0, .int .u8 0, .int .u8 0, .int .u8 0, .int .u8 0, .int .u8 0, .int .u8 0, .int .u8 0, .int .u8 0, .int .u8 0, .int .u8 0, .int .u8 0, .int .u8 0, .int .u8 0, .int .u8 0, .int .u8 0, .int .u8 0, .int .u8 0, .int .u8 0, .int .u8 0, .int .u8 0, .int .u8 0, .int .u8 0, .int .u8 0, .int .u8 0, .int .u8 0, .int .u8 0, .int .u8 0, .int .u8 0, .int .u8 0, .int .u8 0, .int .u8 0, .int .u8 0, .int .u8 0, .int .u8 0, .int .u8 0, .int .u8 0, .int .u8 0, .int .u8 0, .int .u8 0, .int .u8 0, .int .u8 0, .int .u8 0, .int .u8 0, .int .u8 0, .int .u8 0, .int .u8 0, .int .u8 0, .int .u8 0, .int .u8 0, .int .u8 0, .int .u8 0, .int .u8 0, .int .u8 0, .int .u8 0, .int .u8 0, .int .u8 0, .int .u8 0, .int .u8 0, .int .u8 0, .int .u8 0, .int .u8 0, .int .u8 0, .int .u8 0, .int .u8 0, .int .u8 0, .int .u8 0, .int .u8 0, .int .u8 0, .int .u8 0, .int .u8 0, .int .u8 0, .int .u8 0, .int .u8 0, .int .u8 0, .int .u8 0, .int .u8 0, .int .u8 0, .int .u8 0, .int .u8 0, .int .u8 0, .int .u8 0, .int .u8 0, .int .u8 0, .int .u8 0, .int .u8 0, .int .u8 0, .int .u8 0, .int .u8 0, .int .u8 0, .int .u8 0, .int .u8 0, .int .u8 0, .int .u8 0, .int .u8 0, .int .u8 0, .int .u8 0, .int .u8 0, .int .u8 0, .int .u8 0, .int .u8 0, .int .u8 0, .int .u8 0, .int .u8 0, .int .u8 0, .int .u8 0, .int .u8 0, .int .u8 0, .int .u8 0, .int .u8 0, .int .u8 0, .int .u8 0, .int .u8 0, .int .u8 0, .int .u8 0, .int .u8 0, .int .u8 0, .int .u8 0, .int .u8 0, .int .u8 0, .int .u8 0, .int .u8 0, .int .u8 0, .int .u8 0, .int .u8 0, .int .u8 0, .int .u8 0, .int .u8 0, .int .u8 0, .int .u8 0, .int .u8 0, .int .u8 0, .int .u8 0, .int .u8 0, .int .u8 0, .int .u8 0, .int .u8 0, .int .u8 0, .int .u8 0, .int .u8 0, .int .u8 0, .int .u8 0, .int .u8 0, .int .u8 0, .int .u8 0, .int .u8 0, .int .u8 0, .int .u8 0, .int .u8 0, .int .u8 0, .int .u8 0, .int .u8 0, .int .u8 0, .int .u8 0, .int .u8 0, .int .u8 0, .int .u8 0, .int .u8 0, .int .u8 0, .int .u8 0, .int .u8 0, .int .u8 0, .int .u8 0, .int .u8 0, .int .u8 0, .int .u8 0, .int .u8 0, .int .u8 0, .int .u8 0, .int .u8 0, .int .u8 0, .int .u8 0, .int .u8 0, .int .u8 0, .int .u8 0, .int .u8 0, .int .u8 0, .int .u8 0, .int .u8 0]) := by kernel_rfl
theorem sz69 : psize? Tryd.prog 69 = some 1 := by kernel_rfl
theorem pb69 : pbytes? Tryd.prog 69 = some 8 := by kernel_rfl
theorem zv69 : zeroV Tryd.prog 69 = some (.int .u64 0) := by kernel_rfl
theorem sz70 : psize? Tryd.prog 70 = some 2 := by kernel_rfl
theorem pb70 : pbytes? Tryd.prog 70 = some 2 := by kernel_rfl
theorem zv70 : zeroV Tryd.prog 70 = some (.agg #[.int .u8 0, .int .u8 0]) := by kernel_rfl
theorem sz71 : psize? Tryd.prog 71 = some 2 := by kernel_rfl
theorem pb71 : pbytes? Tryd.prog 71 = some 2 := by kernel_rfl
theorem zv71 : zeroV Tryd.prog 71 = some (.agg #[.int .u8 0, .int .u8 0]) := by kernel_rfl
theorem sz72 : psize? Tryd.prog 72 = some 32 := by kernel_rfl
theorem pb72 : pbytes? Tryd.prog 72 = some 32 := by kernel_rfl
theorem zv72 : zeroV Tryd.prog 72 = some (.agg #[.int .u8 0, .int .u8 0, .int .u8 0, .int .u8 0, .int .u8 0, .int .u8 0, .int .u8 0, .int .u8 0, .int .u8 0, .int .u8 0, .int .u8 0, .int .u8 0, .int .u8 0, .int .u8 0, .int .u8 0, .int .u8 0, .int .u8 0, .int .u8 0, .int .u8 0, .int .u8 0, .int .u8 0, .int .u8 0, .int .u8 0, .int .u8 0, .int .u8 0, .int .u8 0, .int .u8 0, .int .u8 0, .int .u8 0, .int .u8 0, .int .u8 0, .int .u8 0]) := by kernel_rfl
theorem sz73 : psize? Tryd.prog 73 = some 1 := by kernel_rfl
theorem pb73 : pbytes? Tryd.prog 73 = some 8 := by kernel_rfl
theorem zv73 : zeroV Tryd.prog 73 = some .nilFunc := by kernel_rfl
theorem sz74 : psize? Tryd.prog 74 = some 1 := by kernel_rfl
theorem pb74 : pbytes? Tryd.prog 74 = some 8 := by kernel_rfl
theorem zv74 : zeroV Tryd.prog 74 = some .nilFunc := by kernel_rfl
theorem sz75 : psize? Tryd.prog 75 = some 1 := by kernel_rfl
theorem pb75 : pbytes? Tryd.prog 75 = some 4 := by kernel_rfl
theorem zv75 : zeroV Tryd.prog 75 = some (.int .u32 0) := by kernel_rfl
theorem zv76 : zeroV Tryd.prog 76 = some (.tuple #[.int .u32 0, .int .u32 0]) := by kernel_rfl
theorem sz77 : psize? Tryd.prog 77 = some 1 := by kernel_rfl
theorem pb77 : pbytes? Tryd.prog 77 = some 8 := by kernel_rfl
theorem zv77 : zeroV Tryd.prog 77 = some .nilFunc := by kernel_rfl
theorem sz78 : psize? Tryd.prog 78 = some 4 := by kernel_rfl
theorem pb78 : pbytes? Tryd.prog 78 = some 40 := by kernel_rfl
theorem zv78 : zeroV Tryd.prog 78 = some (.agg #[.pointer none, .pointer none, .pointer none, .string ⟨#[]⟩]) := by kernel_rfl
theorem sz79 : psize? Tryd.prog 79 = some 4 := by kernel_rfl
theorem pb79 : pbytes? Tryd.prog 79 = some 40 := by kernel_rfl
theorem zv79 : zeroV Tryd.prog 79 = some (.agg #[.pointer none, .pointer none, .pointer none, .string ⟨#[]⟩]) := by kernel_rfl
theorem sz80 : psize? Tryd.prog 80 = some 0 := by kernel_rfl
theorem pb80 : pbytes? Tryd.prog 80 = some 0 := by kernel_rfl
theorem zv80 : zeroV Tryd.prog 80 = some (.agg #[]) := by kernel_rfl
theorem sz81 : psize? Tryd.prog 81 = some 0 := by kernel_rfl
theorem pb81 : pbytes? Tryd.prog 81 = some 0 := by kernel_rfl
theorem zv81 : zeroV Tryd.prog 81 = some (.agg #[]) := by kernel_rfl
theorem sz82 : psize? Tryd.prog 82 = some 0 := by kernel_rfl
theorem pb82 : pbytes? Tryd.prog 82 = some 0 := by kernel_rfl
theorem zv82 : zeroV Tryd.prog 82 = some (.agg #[]) := by kernel_rfl
theorem sz83 : psize? Tryd.prog 83 = some 1 := by kernel_rfl
theorem pb83 : pbytes? Tryd.prog 83 = some 8 := by kernel_rfl
theorem zv83 : zeroV Tryd.prog 83 = some .nilFunc := by kernel_rfl
theorem sz84 : psize? Tryd.prog 84 = some 1 := by kernel_rfl
theorem pb84 : pbytes? Tryd.prog 84 = some 1 := by kernel_rfl
theorem zv84 : zeroV Tryd.prog 84 = some (.int .u8 0) := by kernel_rfl
theorem sz85 : psize? Tryd.prog 85 = some 1 := by kernel_rfl
theorem pb85 : pbytes? Tryd.prog 85 = some 1 := by kernel_rfl
theorem zv85 : zeroV Tryd.prog 85 = some (.int .u8 0) := by kernel_rfl
theorem sz86 : psize? Tryd.prog 86 = some 1 := by kernel_rfl
theorem pb86 : pbytes? Tryd.prog 86 = some 8 := by kernel_rfl
theorem zv86 : zeroV Tryd.prog 86 = some .nilFunc := by kernel_rfl
theorem sz87 : psize? Tryd.prog 87 = some 1 := by kernel_rfl
theorem pb87 : pbytes? Tryd.prog 87 = some 4 := by kernel_rfl
theorem zv87 : zeroV Tryd.prog 87 = some (.int .i32 0) := by kernel_rfl
theorem sz88 : psize? Tryd.prog 88 = some 1 := by kernel_rfl
theorem pb88 : pbytes? Tryd.prog 88 = some 4 := by kernel_rfl
theorem zv88 : zeroV Tryd.prog 88 = some (.int .i32 0) := by kernel_rfl
theorem sz89 : psize? Tryd.prog 89 = some 11 := by kernel_rfl
theorem pb89 : pbytes? Tryd.prog 89 = some 48 := by kernel_rfl
theorem zv89 : zeroV Tryd.prog 89 = some (.agg #[.int .u64 0, .int .u64 0, .int .u32 0, .int .u8 0, .int .u8 0, .int .u8 0, .int .u8 0, .nilFunc, .pointer none, .int .i32 0, .int .i32 0]) := by kernel_rfl
theorem sz90 : psize? Tryd.prog 90 = some 11 := by kernel_rfl
theorem pb90 : pbytes? Tryd.prog 90 = some 48 := by kernel_rfl
theorem zv90 : zeroV Tryd.prog 90 = some (.agg #[.int .u64 0, .int .u64 0, .int .u32 0, .int .u8 0, .int .u8 0, .int .u8 0, .int .u8 0, .nilFunc, .pointer none, .int .i32 0, .int .i32 0]) := by kernel_rfl
theorem hm : Tryd.prog.follows .mixedOrders = true := by kernel_rfl
end Go.Proofs.YtjmfjdmpbkdceaaDoor
