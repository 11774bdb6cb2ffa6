/-
  Closed facts on this program's functions and types.
-/
import Derived.Test.YtaeelnggnpeihaaProg
import Derived.Test.YtaeelnggnpeihaaSxEq
namespace Go.Proofs.Ytaeelnggnpeihaa
open Go.Sx
theorem go3 : GoFn Try.prog 3 := ⟨Try.f3, Try.func3, rfl, by kernel_rfl⟩
theorem go4 : GoFn Try.prog 4 := ⟨Try.f4, Try.func4, rfl, by kernel_rfl⟩
theorem go5 : GoFn Try.prog 5 := ⟨Try.f5, Try.func5, rfl, by kernel_rfl⟩
theorem go6 : GoFn Try.prog 6 := ⟨Try.f6, Try.func6, rfl, by kernel_rfl⟩
theorem go7 : GoFn Try.prog 7 := ⟨Try.f7, Try.func7, rfl, by kernel_rfl⟩
theorem go8 : GoFn Try.prog 8 := ⟨Try.f8, Try.func8, rfl, by kernel_rfl⟩
theorem go9 : GoFn Try.prog 9 := ⟨Try.f9, Try.func9, rfl, by kernel_rfl⟩
theorem go10 : GoFn Try.prog 10 := ⟨Try.f10, Try.func10, rfl, by kernel_rfl⟩
theorem go11 : GoFn Try.prog 11 := ⟨Try.f11, Try.func11, rfl, by kernel_rfl⟩
theorem go12 : GoFn Try.prog 12 := ⟨Try.f12, Try.func12, rfl, by kernel_rfl⟩
theorem go13 : GoFn Try.prog 13 := ⟨Try.f13, Try.func13, rfl, by kernel_rfl⟩
theorem go14 : GoFn Try.prog 14 := ⟨Try.f14, Try.func14, rfl, by kernel_rfl⟩
theorem go15 : GoFn Try.prog 15 := ⟨Try.f15, Try.func15, rfl, by kernel_rfl⟩
theorem go16 : GoFn Try.prog 16 := ⟨Try.f16, Try.func16, rfl, by kernel_rfl⟩
theorem go17 : GoFn Try.prog 17 := ⟨Try.f17, Try.func17, rfl, by kernel_rfl⟩
theorem go18 : GoFn Try.prog 18 := ⟨Try.f18, Try.func18, rfl, by kernel_rfl⟩
theorem go19 : GoFn Try.prog 19 := ⟨Try.f19, Try.func19, rfl, by kernel_rfl⟩
theorem go20 : GoFn Try.prog 20 := ⟨Try.f20, Try.func20, rfl, by kernel_rfl⟩
theorem go21 : GoFn Try.prog 21 := ⟨Try.f21, Try.func21, rfl, by kernel_rfl⟩
theorem go22 : GoFn Try.prog 22 := ⟨Try.f22, Try.func22, rfl, by kernel_rfl⟩
theorem go23 : GoFn Try.prog 23 := ⟨Try.f23, Try.func23, rfl, by kernel_rfl⟩
theorem go24 : GoFn Try.prog 24 := ⟨Try.f24, Try.func24, rfl, by kernel_rfl⟩
theorem go25 : GoFn Try.prog 25 := ⟨Try.f25, Try.func25, rfl, by kernel_rfl⟩
theorem go26 : GoFn Try.prog 26 := ⟨Try.f26, Try.func26, rfl, by kernel_rfl⟩
theorem go27 : GoFn Try.prog 27 := ⟨Try.f27, Try.func27, rfl, by kernel_rfl⟩
theorem go28 : GoFn Try.prog 28 := ⟨Try.f28, Try.func28, rfl, by kernel_rfl⟩
theorem go29 : GoFn Try.prog 29 := ⟨Try.f29, Try.func29, rfl, by kernel_rfl⟩
theorem go30 : GoFn Try.prog 30 := ⟨Try.f30, Try.func30, rfl, by kernel_rfl⟩
theorem go31 : GoFn Try.prog 31 := ⟨Try.f31, Try.func31, rfl, by kernel_rfl⟩
theorem go32 : GoFn Try.prog 32 := ⟨Try.f32, Try.func32, rfl, by kernel_rfl⟩
theorem go33 : GoFn Try.prog 33 := ⟨Try.f33, Try.func33, rfl, by kernel_rfl⟩
theorem go34 : GoFn Try.prog 34 := ⟨Try.f34, Try.func34, rfl, by kernel_rfl⟩
theorem go35 : GoFn Try.prog 35 := ⟨Try.f35, Try.func35, rfl, by kernel_rfl⟩
theorem go36 : GoFn Try.prog 36 := ⟨Try.f36, Try.func36, rfl, by kernel_rfl⟩
theorem go38 : GoFn Try.prog 38 := ⟨Try.f38, Try.func38, rfl, by kernel_rfl⟩
theorem ext39 : ExtFn Try.prog 39 Extern.BytealgIndexByte.indexByte := ⟨Try.f39, Try.func39, by kernel_rfl, by kernel_rfl, by kernel_rfl, by kernel_rfl⟩
theorem zv0 : zeroV Try.prog 0 = some (.tuple #[]) := by kernel_rfl
theorem sz1 : psize? Try.prog 1 = some 1 := by kernel_rfl
theorem pb1 : pbytes? Try.prog 1 = some 8 := by kernel_rfl
theorem zv1 : zeroV Try.prog 1 = some .nilFunc := by kernel_rfl
theorem sz2 : psize? Try.prog 2 = some 1 := by kernel_rfl
theorem pb2 : pbytes? Try.prog 2 = some 8 := by kernel_rfl
theorem zv2 : zeroV Try.prog 2 = some (.int .i64 0) := by kernel_rfl
theorem sz3 : psize? Try.prog 3 = some 1 := by kernel_rfl
theorem pb3 : pbytes? Try.prog 3 = some 8 := by kernel_rfl
theorem zv3 : zeroV Try.prog 3 = some (.int .i64 0) := by kernel_rfl
theorem sz4 : psize? Try.prog 4 = some 1 := by kernel_rfl
theorem pb4 : pbytes? Try.prog 4 = some 1 := by kernel_rfl
theorem zv4 : zeroV Try.prog 4 = some (.bool false) := by kernel_rfl
theorem sz5 : psize? Try.prog 5 = some 1 := by kernel_rfl
theorem pb5 : pbytes? Try.prog 5 = some 1 := by kernel_rfl
theorem zv5 : zeroV Try.prog 5 = some (.int .u8 0) := by kernel_rfl
theorem sz6 : psize? Try.prog 6 = some 1 := by kernel_rfl
theorem pb6 : pbytes? Try.prog 6 = some 1 := by kernel_rfl
theorem zv6 : zeroV Try.prog 6 = some (.int .u8 0) := by kernel_rfl
theorem sz7 : psize? Try.prog 7 = some 4 := by kernel_rfl
theorem pb7 : pbytes? Try.prog 7 = some 24 := by kernel_rfl
theorem zv7 : zeroV Try.prog 7 = some (.agg #[.int .i64 0, .int .i64 0, .bool false, .int .u8 0]) := by kernel_rfl
theorem sz8 : psize? Try.prog 8 = some 4 := by kernel_rfl
theorem pb8 : pbytes? Try.prog 8 = some 24 := by kernel_rfl
theorem zv8 : zeroV Try.prog 8 = some (.agg #[.int .i64 0, .int .i64 0, .bool false, .int .u8 0]) := by kernel_rfl
theorem sz9 : psize? Try.prog 9 = some 1 := by kernel_rfl
theorem pb9 : pbytes? Try.prog 9 = some 16 := by kernel_rfl
theorem zv9 : zeroV Try.prog 9 = some (.string ⟨#[]⟩) := by kernel_rfl
theorem sz10 : psize? Try.prog 10 = some 1 := by kernel_rfl
theorem pb10 : pbytes? Try.prog 10 = some 16 := by kernel_rfl
theorem zv10 : zeroV Try.prog 10 = some (.string ⟨#[]⟩) := by kernel_rfl
theorem sz11 : psize? Try.prog 11 = some 1 := by kernel_rfl
theorem pb11 : pbytes? Try.prog 11 = some 16 := by kernel_rfl
theorem zv11 : zeroV Try.prog 11 = some (.string ⟨#[]⟩) := by kernel_rfl
theorem sz12 : psize? Try.prog 12 = some 1 := by kernel_rfl
theorem pb12 : pbytes? Try.prog 12 = some 8 := by kernel_rfl
theorem zv12 : zeroV Try.prog 12 = some (.int .u64 0) := by kernel_rfl
theorem sz13 : psize? Try.prog 13 = some 2 := by kernel_rfl
theorem pb13 : pbytes? Try.prog 13 = some 24 := by kernel_rfl
theorem zv13 : zeroV Try.prog 13 = some (.agg #[.string ⟨#[]⟩, .int .u64 0]) := by kernel_rfl
theorem sz14 : psize? Try.prog 14 = some 2 := by kernel_rfl
theorem pb14 : pbytes? Try.prog 14 = some 24 := by kernel_rfl
theorem zv14 : zeroV Try.prog 14 = some (.agg #[.string ⟨#[]⟩, .int .u64 0]) := by kernel_rfl
theorem sz15 : psize? Try.prog 15 = some 1 := by kernel_rfl
theorem pb15 : pbytes? Try.prog 15 = some 8 := by kernel_rfl
theorem zv15 : zeroV Try.prog 15 = some (.pointer none) := by kernel_rfl
theorem sz16 : psize? Try.prog 16 = some 1 := by kernel_rfl
theorem pb16 : pbytes? Try.prog 16 = some 8 := by kernel_rfl
theorem zv16 : zeroV Try.prog 16 = some (.pointer none) := by kernel_rfl
theorem sz17 : psize? Try.prog 17 = some 1 := by kernel_rfl
theorem pb17 : pbytes? Try.prog 17 = some 8 := by kernel_rfl
theorem zv17 : zeroV Try.prog 17 = some (.pointer none) := by kernel_rfl
theorem sz18 : psize? Try.prog 18 = some 1 := by kernel_rfl
theorem pb18 : pbytes? Try.prog 18 = some 8 := by kernel_rfl
theorem zv18 : zeroV Try.prog 18 = some (.agg #[.pointer none]) := by kernel_rfl
theorem sz19 : psize? Try.prog 19 = some 1 := by kernel_rfl
theorem pb19 : pbytes? Try.prog 19 = some 8 := by kernel_rfl
theorem zv19 : zeroV Try.prog 19 = some (.agg #[.pointer none]) := by kernel_rfl
theorem sz20 : psize? Try.prog 20 = some 1 := by kernel_rfl
theorem pb20 : pbytes? Try.prog 20 = some 16 := by kernel_rfl
theorem zv20 : zeroV Try.prog 20 = some .nilIface := by kernel_rfl
theorem sz21 : psize? Try.prog 21 = some 1 := by kernel_rfl
theorem pb21 : pbytes? Try.prog 21 = some 4 := by kernel_rfl
theorem zv21 : zeroV Try.prog 21 = some (.int .i32 0) := by kernel_rfl
theorem sz22 : psize? Try.prog 22 = some 1 := by kernel_rfl
theorem pb22 : pbytes? Try.prog 22 = some 8 := by kernel_rfl
theorem zv22 : zeroV Try.prog 22 = some .nilFunc := by kernel_rfl
theorem sz23 : psize? Try.prog 23 = some 1 := by kernel_rfl
theorem pb23 : pbytes? Try.prog 23 = some 8 := by kernel_rfl
theorem zv23 : zeroV Try.prog 23 = some .nilFunc := by kernel_rfl
theorem sz24 : psize? Try.prog 24 = some 1 := by kernel_rfl
theorem pb24 : pbytes? Try.prog 24 = some 8 := by kernel_rfl
theorem zv24 : zeroV Try.prog 24 = some .nilFunc := by kernel_rfl
theorem zv25 : zeroV Try.prog 25 = some (.tuple #[.string ⟨#[]⟩, .bool false]) := by kernel_rfl
theorem sz26 : psize? Try.prog 26 = some 1 := by kernel_rfl
theorem pb26 : pbytes? Try.prog 26 = some 8 := by kernel_rfl
theorem zv26 : zeroV Try.prog 26 = some .nilFunc := by kernel_rfl
theorem sz27 : psize? Try.prog 27 = some 1 := by kernel_rfl
theorem pb27 : pbytes? Try.prog 27 = some 8 := by kernel_rfl
theorem zv27 : zeroV Try.prog 27 = some .nilFunc := by kernel_rfl
theorem sz28 : psize? Try.prog 28 = some 1 := by kernel_rfl
theorem pb28 : pbytes? Try.prog 28 = some 8 := by kernel_rfl
theorem zv28 : zeroV Try.prog 28 = some .nilFunc := by kernel_rfl
theorem sz29 : psize? Try.prog 29 = some 1 := by kernel_rfl
theorem pb29 : pbytes? Try.prog 29 = some 8 := by kernel_rfl
theorem zv29 : zeroV Try.prog 29 = some .nilFunc := by kernel_rfl
theorem sz30 : psize? Try.prog 30 = some 1 := by kernel_rfl
theorem pb30 : pbytes? Try.prog 30 = some 8 := by kernel_rfl
theorem zv30 : zeroV Try.prog 30 = some .nilFunc := by kernel_rfl
theorem sz31 : psize? Try.prog 31 = some 1 := by kernel_rfl
theorem pb31 : pbytes? Try.prog 31 = some 8 := by kernel_rfl
theorem zv31 : zeroV Try.prog 31 = some .nilFunc := by kernel_rfl
theorem sz32 : psize? Try.prog 32 = some 1 := by kernel_rfl
theorem pb32 : pbytes? Try.prog 32 = some 24 := by kernel_rfl
theorem zv32 : zeroV Try.prog 32 = some (.slice none 0 0) := by kernel_rfl
theorem sz33 : psize? Try.prog 33 = some 1 := by kernel_rfl
theorem pb33 : pbytes? Try.prog 33 = some 8 := by kernel_rfl
theorem zv33 : zeroV Try.prog 33 = some .nilFunc := by kernel_rfl
theorem sz34 : psize? Try.prog 34 = some 1 := by kernel_rfl
theorem pb34 : pbytes? Try.prog 34 = some 8 := by kernel_rfl
theorem zv34 : zeroV Try.prog 34 = some .nilFunc := by kernel_rfl
theorem sz35 : psize? Try.prog 35 = some 1 := by kernel_rfl
theorem pb35 : pbytes? Try.prog 35 = some 8 := by kernel_rfl
theorem zv35 : zeroV Try.prog 35 = some .nilFunc := by kernel_rfl
theorem sz36 : psize? Try.prog 36 = some 1 := by kernel_rfl
theorem pb36 : pbytes? Try.prog 36 = some 8 := by kernel_rfl
theorem zv36 : zeroV Try.prog 36 = some .nilFunc := by kernel_rfl
theorem sz37 : psize? Try.prog 37 = some 1 := by kernel_rfl
theorem pb37 : pbytes? Try.prog 37 = some 8 := by kernel_rfl
theorem zv37 : zeroV Try.prog 37 = some .nilFunc := by kernel_rfl
theorem sz38 : psize? Try.prog 38 = some 1 := by kernel_rfl
theorem pb38 : pbytes? Try.prog 38 = some 8 := by kernel_rfl
theorem zv38 : zeroV Try.prog 38 = some .nilFunc := by kernel_rfl
theorem sz39 : psize? Try.prog 39 = some 1 := by kernel_rfl
theorem pb39 : pbytes? Try.prog 39 = some 8 := by kernel_rfl
theorem zv39 : zeroV Try.prog 39 = some .nilFunc := by kernel_rfl
theorem sz40 : psize? Try.prog 40 = some 1 := by kernel_rfl
theorem pb40 : pbytes? Try.prog 40 = some 8 := by kernel_rfl
theorem zv40 : zeroV Try.prog 40 = some .nilFunc := by kernel_rfl
theorem sz41 : psize? Try.prog 41 = some 256 := by kernel_rfl
theorem pb41 : pbytes? Try.prog 41 = some 256 := by kernel_rfl
theorem zv41 : zeroV Try.prog 41 = some (.agg #[.bool false, .bool false, .bool false, .bool false, .bool false, .bool false, .bool false, .bool false, .bool false, .bool false, .bool false, .bool false, .bool false, .bool false, .bool false, .bool false, .bool false, .bool false, .bool false, .bool false, .bool false, .bool false, .bool false, .bool false, .bool false, .bool false, .bool false, .bool false, .bool false, .bool false, .bool false, .bool false, .bool false, .bool false, .bool false, .bool false, .bool false, .bool false, .bool false, .bool false, .bool false, .bool false, .bool false, .bool false, .bool false, .bool false, .bool false, .bool false, .bool false, .bool false, .bool false, .bool false, .bool false, .bool false, .bool false, .bool false, .bool false, .bool false, .bool false, .bool false, .bool false, .bool false, .bool false, .bool false, .bool false, .bool false, .bool false, .bool false, .bool false, .bool false, .bool false, .bool false, .bool false, .bool false, .bool false, .bool false, .bool false, .bool false, .bool false, .bool false, .bool false, .bool false, .bool false, .bool false, .bool false, .bool false, .bool false, .bool false, .bool false, .bool false, .bool false, .bool false, .bool false, .bool false, .bool false, .bool false, .bool false, .bool false, .bool false, .bool false, .bool false, .bool false, .bool false, .bool false, .bool false, .bool false, .bool false, .bool false, .bool false, .bool false, .bool false, .bool false, .bool false, .bool false, .bool false, .bool false, .bool false, .bool false, .bool false, .bool false, .bool false, .bool false, .bool false, .bool false, .bool false, .bool false, .bool false, .bool false, .bool false, .bool false, .bool false, .bool false, .bool false, .bool false, .bool false, .bool false, .bool false, .bool false, .bool false, .bool false, .bool false, .bool false, .bool false, .bool false, .bool false, .bool false, .bool false, .bool false, .bool false, .bool false, .bool false, .bool false, .bool false, .bool false, .bool false, .bool false, .bool false, .bool false, .bool false, .bool false, .bool false, .bool false, .bool false, .bool false, .bool false, .bool false, .bool false, .bool false, .bool false, .bool false, .bool false, .bool false, .bool false, .bool false, .bool false, .bool false, .bool false, .bool false, .bool false, .bool false, .bool false, .bool false, .bool false, .bool false, .bool false, .bool false, .bool false, .bool false, .bool false, .bool false, .bool false, .bool false, .bool false, .bool false, .bool false, .bool false, .bool false, .bool false, .bool false, .bool false, .bool false, .bool false, .bool false, .bool false, .bool false, .bool false, .bool false, .bool false, .bool false, .bool false, .bool false, .bool false, .bool false, .bool false, .bool false, .bool false, .bool false, .bool false, .bool false, .bool false, .bool false, .bool false, .bool false, .bool false, .bool false, .bool false, .bool false, .bool false, .bool false, .bool false, .bool false, .bool false, .bool false, .bool false, .bool false, .bool false, .bool false, .bool false, .bool false, .bool false, .bool false, .bool false, .bool false, .bool false, .bool false, .bool false, .bool false, .bool false, .bool false, .bool false, .bool false, .bool false, .bool false, .bool false, .bool false, .bool false]) := by kernel_rfl
theorem sz42 : psize? Try.prog 42 = some 256 := by kernel_rfl
theorem pb42 : pbytes? Try.prog 42 = some 256 := by kernel_rfl
theorem zv42 : zeroV Try.prog 42 = some (.agg #[.bool false, .bool false, .bool false, .bool false, .bool false, .bool false, .bool false, .bool false, .bool false, .bool false, .bool false, .bool false, .bool false, .bool false, .bool false, .bool false, .bool false, .bool false, .bool false, .bool false, .bool false, .bool false, .bool false, .bool false, .bool false, .bool false, .bool false, .bool false, .bool false, .bool false, .bool false, .bool false, .bool false, .bool false, .bool false, .bool false, .bool false, .bool false, .bool false, .bool false, .bool false, .bool false, .bool false, .bool false, .bool false, .bool false, .bool false, .bool false, .bool false, .bool false, .bool false, .bool false, .bool false, .bool false, .bool false, .bool false, .bool false, .bool false, .bool false, .bool false, .bool false, .bool false, .bool false, .bool false, .bool false, .bool false, .bool false, .bool false, .bool false, .bool false, .bool false, .bool false, .bool false, .bool false, .bool false, .bool false, .bool false, .bool false, .bool false, .bool false, .bool false, .bool false, .bool false, .bool false, .bool false, .bool false, .bool false, .bool false, .bool false, .bool false, .bool false, .bool false, .bool false, .bool false, .bool false, .bool false, .bool false, .bool false, .bool false, .bool false, .bool false, .bool false, .bool false, .bool false, .bool false, .bool false, .bool false, .bool false, .bool false, .bool false, .bool false, .bool false, .bool false, .bool false, .bool false, .bool false, .bool false, .bool false, .bool false, .bool false, .bool false, .bool false, .bool false, .bool false, .bool false, .bool false, .bool false, .bool false, .bool false, .bool false, .bool false, .bool false, .bool false, .bool false, .bool false, .bool false, .bool false, .bool false, .bool false, .bool false, .bool false, .bool false, .bool false, .bool false, .bool false, .bool false, .bool false, .bool false, .bool false, .bool false, .bool false, .bool false, .bool false, .bool false, .bool false, .bool false, .bool false, .bool false, .bool false, .bool false, .bool false, .bool false, .bool false, .bool false, .bool false, .bool false, .bool false, .bool false, .bool false, .bool false, .bool false, .bool false, .bool false, .bool false, .bool false, .bool false, .bool false, .bool false, .bool false, .bool false, .bool false, .bool false, .bool false, .bool false, .bool false, .bool false, .bool false, .bool false, .bool false, .bool false, .bool false, .bool false, .bool false, .bool false, .bool false, .bool false, .bool false, .bool false, .bool false, .bool false, .bool false, .bool false, .bool false, .bool false, .bool false, .bool false, .bool false, .bool false, .bool false, .bool false, .bool false, .bool false, .bool false, .bool false, .bool false, .bool false, .bool false, .bool false, .bool false, .bool false, .bool false, .bool false, .bool false, .bool false, .bool false, .bool false, .bool false, .bool false, .bool false, .bool false, .bool false, .bool false, .bool false, .bool false, .bool false, .bool false, .bool false, .bool false, .bool false, .bool false, .bool false, .bool false, .bool false, .bool false, .bool false, .bool false, .bool false, .bool false, .bool false, .bool false, .bool false, .bool false, .bool false, .bool false, .bool false, .bool false]) := by kernel_rfl
theorem zv43 : zeroV Try.prog 43 = some (.tuple #[.agg #[.bool false, .bool false, .bool false, .bool false, .bool false, .bool false, .bool false, .bool false, .bool false, .bool false, .bool false, .bool false, .bool false, .bool false, .bool false, .bool false, .bool false, .bool false, .bool false, .bool false, .bool false, .bool false, .bool false, .bool false, .bool false, .bool false, .bool false, .bool false, .bool false, .bool false, .bool false, .bool false, .bool false, .bool false, .bool false, .bool false, .bool false, .bool false, .bool false, .bool false, .bool false, .bool false, .bool false, .bool false, .bool false, .bool false, .bool false, .bool false, .bool false, .bool false, .bool false, .bool false, .bool false, .bool false, .bool false, .bool false, .bool false, .bool false, .bool false, .bool false, .bool false, .bool false, .bool false, .bool false, .bool false, .bool false, .bool false, .bool false, .bool false, .bool false, .bool false, .bool false, .bool false, .bool false, .bool false, .bool false, .bool false, .bool false, .bool false, .bool false, .bool false, .bool false, .bool false, .bool false, .bool false, .bool false, .bool false, .bool false, .bool false, .bool false, .bool false, .bool false, .bool false, .bool false, .bool false, .bool false, .bool false, .bool false, .bool false, .bool false, .bool false, .bool false, .bool false, .bool false, .bool false, .bool false, .bool false, .bool false, .bool false, .bool false, .bool false, .bool false, .bool false, .bool false, .bool false, .bool false, .bool false, .bool false, .bool false, .bool false, .bool false, .bool false, .bool false, .bool false, .bool false, .bool false, .bool false, .bool false, .bool false, .bool false, .bool false, .bool false, .bool false, .bool false, .bool false, .bool false, .bool false, .bool false, .bool false, .bool false, .bool false, .bool false, .bool false, .bool false, .bool false, .bool false, .bool false, .bool false, .bool false, .bool false, .bool false, .bool false, .bool false, .bool false, .bool false, .bool false, .bool false, .bool false, .bool false, .bool false, .bool false, .bool false, .bool false, .bool false, .bool false, .bool false, .bool false, .bool false, .bool false, .bool false, .bool false, .bool false, .bool false, .bool false, .bool false, .bool false, .bool false, .bool false, .bool false, .bool false, .bool false, .bool false, .bool false, .bool false, .bool false, .bool false, .bool false, .bool false, .bool false, .bool false, .bool false, .bool false, .bool false, .bool false, .bool false, .bool false, .bool false, .bool false, .bool false, .bool false, .bool false, .bool false, .bool false, .bool false, .bool false, .bool false, .bool false, .bool false, .bool false, .bool false, .bool false, .bool false, .bool false, .bool false, .bool false, .bool false, .bool false, .bool false, .bool false, .bool false, .bool false, .bool false, .bool false, .bool false, .bool false, .bool false, .bool false, .bool false, .bool false, .bool false, .bool false, .bool false, .bool false, .bool false, .bool false, .bool false, .bool false, .bool false, .bool false, .bool false, .bool false, .bool false, .bool false, .bool false, .bool false, .bool false, .bool false, .bool false, .bool false, .bool false, .bool false, .bool false, .bool false, .bool false, .bool false, .bool false], .bool false]) := by kernel_rfl
theorem sz44 : psize? Try.prog 44 = some 1 := by kernel_rfl
theorem pb44 : pbytes? Try.prog 44 = some 8 := by kernel_rfl
theorem zv44 : zeroV Try.prog 44 = some .nilFunc := by kernel_rfl
theorem sz45 : psize? Try.prog 45 = some 1 := by kernel_rfl
theorem pb45 : pbytes? Try.prog 45 = some 8 := by kernel_rfl
theorem zv45 : zeroV Try.prog 45 = some .nilFunc := by kernel_rfl
theorem sz46 : psize? Try.prog 46 = some 1 := by kernel_rfl
theorem pb46 : pbytes? Try.prog 46 = some 8 := by kernel_rfl
theorem zv46 : zeroV Try.prog 46 = some .nilFunc := by kernel_rfl
theorem sz47 : psize? Try.prog 47 = some 1 := by kernel_rfl
theorem pb47 : pbytes? Try.prog 47 = some 8 := by kernel_rfl
theorem zv47 : zeroV Try.prog 47 = some .nilFunc := by kernel_rfl
theorem sz48 : psize? Try.prog 48 = some 1 := by kernel_rfl
theorem pb48 : pbytes? Try.prog 48 = some 8 := by kernel_rfl
theorem zv48 : zeroV Try.prog 48 = some (.int .u64 0) := by kernel_rfl
theorem sz49 : psize? Try.prog 49 = some 1 := by kernel_rfl
theorem pb49 : pbytes? Try.prog 49 = some 8 := by kernel_rfl
theorem zv49 : zeroV Try.prog 49 = some (.pointer none) := by kernel_rfl
theorem sz50 : psize? Try.prog 50 = some 4 := by kernel_rfl
theorem pb50 : pbytes? Try.prog 50 = some 40 := by kernel_rfl
theorem zv50 : zeroV Try.prog 50 = some (.agg #[.pointer none, .pointer none, .pointer none, .string ⟨#[]⟩]) := by kernel_rfl
theorem sz51 : psize? Try.prog 51 = some 4 := by kernel_rfl
theorem pb51 : pbytes? Try.prog 51 = some 40 := by kernel_rfl
theorem zv51 : zeroV Try.prog 51 = some (.agg #[.pointer none, .pointer none, .pointer none, .string ⟨#[]⟩]) := by kernel_rfl
theorem sz52 : psize? Try.prog 52 = some 0 := by kernel_rfl
theorem pb52 : pbytes? Try.prog 52 = some 0 := by kernel_rfl
theorem zv52 : zeroV Try.prog 52 = some (.agg #[]) := by kernel_rfl
theorem sz53 : psize? Try.prog 53 = some 0 := by kernel_rfl
theorem pb53 : pbytes? Try.prog 53 = some 0 := by kernel_rfl
theorem zv53 : zeroV Try.prog 53 = some (.agg #[]) := by kernel_rfl
theorem sz54 : psize? Try.prog 54 = some 0 := by kernel_rfl
theorem pb54 : pbytes? Try.prog 54 = some 0 := by kernel_rfl
theorem zv54 : zeroV Try.prog 54 = some (.agg #[]) := by kernel_rfl
theorem sz55 : psize? Try.prog 55 = some 1 := by kernel_rfl
theorem pb55 : pbytes? Try.prog 55 = some 8 := by kernel_rfl
theorem zv55 : zeroV Try.prog 55 = some .nilFunc := by kernel_rfl
theorem sz56 : psize? Try.prog 56 = some 1 := by kernel_rfl
theorem pb56 : pbytes? Try.prog 56 = some 4 := by kernel_rfl
theorem zv56 : zeroV Try.prog 56 = some (.int .u32 0) := by kernel_rfl
theorem sz57 : psize? Try.prog 57 = some 1 := by kernel_rfl
theorem pb57 : pbytes? Try.prog 57 = some 1 := by kernel_rfl
theorem zv57 : zeroV Try.prog 57 = some (.int .u8 0) := by kernel_rfl
theorem sz58 : psize? Try.prog 58 = some 1 := by kernel_rfl
theorem pb58 : pbytes? Try.prog 58 = some 1 := by kernel_rfl
theorem zv58 : zeroV Try.prog 58 = some (.int .u8 0) := by kernel_rfl
theorem sz59 : psize? Try.prog 59 = some 1 := by kernel_rfl
theorem pb59 : pbytes? Try.prog 59 = some 8 := by kernel_rfl
theorem zv59 : zeroV Try.prog 59 = some .nilFunc := by kernel_rfl
theorem sz60 : psize? Try.prog 60 = some 1 := by kernel_rfl
theorem pb60 : pbytes? Try.prog 60 = some 8 := by kernel_rfl
theorem zv60 : zeroV Try.prog 60 = some (.pointer none) := by kernel_rfl
theorem sz61 : psize? Try.prog 61 = some 1 := by kernel_rfl
theorem pb61 : pbytes? Try.prog 61 = some 4 := by kernel_rfl
theorem zv61 : zeroV Try.prog 61 = some (.int .i32 0) := by kernel_rfl
theorem sz62 : psize? Try.prog 62 = some 1 := by kernel_rfl
theorem pb62 : pbytes? Try.prog 62 = some 4 := by kernel_rfl
theorem zv62 : zeroV Try.prog 62 = some (.int .i32 0) := by kernel_rfl
theorem sz63 : psize? Try.prog 63 = some 11 := by kernel_rfl
theorem pb63 : pbytes? Try.prog 63 = some 48 := by kernel_rfl
theorem zv63 : zeroV Try.prog 63 = some (.agg #[.int .u64 0, .int .u64 0, .int .u32 0, .int .u8 0, .int .u8 0, .int .u8 0, .int .u8 0, .nilFunc, .pointer none, .int .i32 0, .int .i32 0]) := by kernel_rfl
theorem sz64 : psize? Try.prog 64 = some 11 := by kernel_rfl
theorem pb64 : pbytes? Try.prog 64 = some 48 := by kernel_rfl
theorem zv64 : zeroV Try.prog 64 = some (.agg #[.int .u64 0, .int .u64 0, .int .u32 0, .int .u8 0, .int .u8 0, .int .u8 0, .int .u8 0, .nilFunc, .pointer none, .int .i32 0, .int .i32 0]) := by kernel_rfl
theorem sz65 : psize? Try.prog 65 = some 1 := by kernel_rfl
theorem pb65 : pbytes? Try.prog 65 = some 8 := by kernel_rfl
theorem zv65 : zeroV Try.prog 65 = some (.pointer none) := by kernel_rfl
theorem hm : Try.prog.follows .mixedOrders = true := by kernel_rfl
end Go.Proofs.Ytaeelnggnpeihaa
