/-
  Closed facts on this program's functions and types.
-/
import Derived.Test.YtcdbjmahnhhoeaaProg
import Derived.Test.YtcdbjmahnhhoeaaSxEq
namespace Go.Proofs.Ytcdbjmahnhhoeaa
open Go.Sx
theorem go3 : GoFn Try.prog 3 := ⟨Try.f3, Try.func3, rfl, by kernel_rfl⟩
theorem go4 : GoFn Try.prog 4 := ⟨Try.f4, Try.func4, rfl, by kernel_rfl⟩
theorem go5 : GoFn Try.prog 5 := ⟨Try.f5, Try.func5, rfl, by kernel_rfl⟩
theorem go6 : GoFn Try.prog 6 := ⟨Try.f6, Try.func6, rfl, by kernel_rfl⟩
theorem go7 : GoFn Try.prog 7 := ⟨Try.f7, Try.func7, rfl, by kernel_rfl⟩
theorem go8 : GoFn Try.prog 8 := ⟨Try.f8, Try.func8, rfl, by kernel_rfl⟩
theorem go9 : GoFn Try.prog 9 := ⟨Try.f9, Try.func9, rfl, by kernel_rfl⟩
theorem go10 : GoFn Try.prog 10 := ⟨Try.f10, Try.func10, rfl, by kernel_rfl⟩
theorem go11 : GoFn Try.prog 11 := ⟨Try.f11, Try.func11, rfl, by kernel_rfl⟩
theorem go12 : GoFn Try.prog 12 := ⟨Try.f12, Try.func12, rfl, by kernel_rfl⟩
theorem go13 : GoFn Try.prog 13 := ⟨Try.f13, Try.func13, rfl, by kernel_rfl⟩
theorem go14 : GoFn Try.prog 14 := ⟨Try.f14, Try.func14, rfl, by kernel_rfl⟩
theorem go15 : GoFn Try.prog 15 := ⟨Try.f15, Try.func15, rfl, by kernel_rfl⟩
theorem go16 : GoFn Try.prog 16 := ⟨Try.f16, Try.func16, rfl, by kernel_rfl⟩
theorem go17 : GoFn Try.prog 17 := ⟨Try.f17, Try.func17, rfl, by kernel_rfl⟩
theorem go18 : GoFn Try.prog 18 := ⟨Try.f18, Try.func18, rfl, by kernel_rfl⟩
theorem go19 : GoFn Try.prog 19 := ⟨Try.f19, Try.func19, rfl, by kernel_rfl⟩
theorem go20 : GoFn Try.prog 20 := ⟨Try.f20, Try.func20, rfl, by kernel_rfl⟩
theorem go21 : GoFn Try.prog 21 := ⟨Try.f21, Try.func21, rfl, by kernel_rfl⟩
theorem go22 : GoFn Try.prog 22 := ⟨Try.f22, Try.func22, rfl, by kernel_rfl⟩
theorem go23 : GoFn Try.prog 23 := ⟨Try.f23, Try.func23, rfl, by kernel_rfl⟩
theorem go24 : GoFn Try.prog 24 := ⟨Try.f24, Try.func24, rfl, by kernel_rfl⟩
theorem go25 : GoFn Try.prog 25 := ⟨Try.f25, Try.func25, rfl, by kernel_rfl⟩
theorem go26 : GoFn Try.prog 26 := ⟨Try.f26, Try.func26, rfl, by kernel_rfl⟩
theorem go27 : GoFn Try.prog 27 := ⟨Try.f27, Try.func27, rfl, by kernel_rfl⟩
theorem go28 : GoFn Try.prog 28 := ⟨Try.f28, Try.func28, rfl, by kernel_rfl⟩
theorem go29 : GoFn Try.prog 29 := ⟨Try.f29, Try.func29, rfl, by kernel_rfl⟩
theorem go30 : GoFn Try.prog 30 := ⟨Try.f30, Try.func30, rfl, by kernel_rfl⟩
theorem go31 : GoFn Try.prog 31 := ⟨Try.f31, Try.func31, rfl, by kernel_rfl⟩
theorem go32 : GoFn Try.prog 32 := ⟨Try.f32, Try.func32, rfl, by kernel_rfl⟩
theorem go33 : GoFn Try.prog 33 := ⟨Try.f33, Try.func33, rfl, by kernel_rfl⟩
theorem go34 : GoFn Try.prog 34 := ⟨Try.f34, Try.func34, rfl, by kernel_rfl⟩
theorem go35 : GoFn Try.prog 35 := ⟨Try.f35, Try.func35, rfl, by kernel_rfl⟩
theorem go36 : GoFn Try.prog 36 := ⟨Try.f36, Try.func36, rfl, by kernel_rfl⟩
theorem go37 : GoFn Try.prog 37 := ⟨Try.f37, Try.func37, rfl, by kernel_rfl⟩
theorem go38 : GoFn Try.prog 38 := ⟨Try.f38, Try.func38, rfl, by kernel_rfl⟩
theorem go39 : GoFn Try.prog 39 := ⟨Try.f39, Try.func39, rfl, by kernel_rfl⟩
theorem go40 : GoFn Try.prog 40 := ⟨Try.f40, Try.func40, rfl, by kernel_rfl⟩
theorem go41 : GoFn Try.prog 41 := ⟨Try.f41, Try.func41, rfl, by kernel_rfl⟩
theorem go42 : GoFn Try.prog 42 := ⟨Try.f42, Try.func42, rfl, by kernel_rfl⟩
theorem go43 : GoFn Try.prog 43 := ⟨Try.f43, Try.func43, rfl, by kernel_rfl⟩
theorem go44 : GoFn Try.prog 44 := ⟨Try.f44, Try.func44, rfl, by kernel_rfl⟩
theorem go45 : GoFn Try.prog 45 := ⟨Try.f45, Try.func45, rfl, by kernel_rfl⟩
theorem go46 : GoFn Try.prog 46 := ⟨Try.f46, Try.func46, rfl, by kernel_rfl⟩
theorem go47 : GoFn Try.prog 47 := ⟨Try.f47, Try.func47, rfl, by kernel_rfl⟩
theorem go48 : GoFn Try.prog 48 := ⟨Try.f48, Try.func48, rfl, by kernel_rfl⟩
theorem go49 : GoFn Try.prog 49 := ⟨Try.f49, Try.func49, rfl, by kernel_rfl⟩
theorem go50 : GoFn Try.prog 50 := ⟨Try.f50, Try.func50, rfl, by kernel_rfl⟩
theorem go51 : GoFn Try.prog 51 := ⟨Try.f51, Try.func51, rfl, by kernel_rfl⟩
theorem go52 : GoFn Try.prog 52 := ⟨Try.f52, Try.func52, rfl, by kernel_rfl⟩
theorem go53 : GoFn Try.prog 53 := ⟨Try.f53, Try.func53, rfl, by kernel_rfl⟩
theorem go54 : GoFn Try.prog 54 := ⟨Try.f54, Try.func54, rfl, by kernel_rfl⟩
theorem go55 : GoFn Try.prog 55 := ⟨Try.f55, Try.func55, rfl, by kernel_rfl⟩
theorem go56 : GoFn Try.prog 56 := ⟨Try.f56, Try.func56, rfl, by kernel_rfl⟩
theorem go57 : GoFn Try.prog 57 := ⟨Try.f57, Try.func57, rfl, by kernel_rfl⟩
theorem go58 : GoFn Try.prog 58 := ⟨Try.f58, Try.func58, rfl, by kernel_rfl⟩
theorem go59 : GoFn Try.prog 59 := ⟨Try.f59, Try.func59, rfl, by kernel_rfl⟩
theorem go60 : GoFn Try.prog 60 := ⟨Try.f60, Try.func60, rfl, by kernel_rfl⟩
theorem go61 : GoFn Try.prog 61 := ⟨Try.f61, Try.func61, rfl, by kernel_rfl⟩
theorem go62 : GoFn Try.prog 62 := ⟨Try.f62, Try.func62, rfl, by kernel_rfl⟩
theorem go64 : GoFn Try.prog 64 := ⟨Try.f64, Try.func64, rfl, by kernel_rfl⟩
theorem ext65 : ExtFn Try.prog 65 Extern.BytealgIndexByte.indexByte := ⟨Try.f65, Try.func65, by kernel_rfl, by kernel_rfl, by kernel_rfl, by kernel_rfl⟩
theorem zv0 : zeroV Try.prog 0 = some (.tuple #[]) := by kernel_rfl
theorem sz1 : psize? Try.prog 1 = some 1 := by kernel_rfl
theorem pb1 : pbytes? Try.prog 1 = some 8 := by kernel_rfl
theorem zv1 : zeroV Try.prog 1 = some .nilFunc := by kernel_rfl
theorem sz2 : psize? Try.prog 2 = some 1 := by kernel_rfl
theorem pb2 : pbytes? Try.prog 2 = some 8 := by kernel_rfl
theorem zv2 : zeroV Try.prog 2 = some (.int .i64 0) := by kernel_rfl
theorem sz3 : psize? Try.prog 3 = some 1 := by kernel_rfl
theorem pb3 : pbytes? Try.prog 3 = some 8 := by kernel_rfl
theorem zv3 : zeroV Try.prog 3 = some (.int .i64 0) := by kernel_rfl
theorem sz4 : psize? Try.prog 4 = some 1 := by kernel_rfl
theorem pb4 : pbytes? Try.prog 4 = some 1 := by kernel_rfl
theorem zv4 : zeroV Try.prog 4 = some (.bool false) := by kernel_rfl
theorem sz5 : psize? Try.prog 5 = some 1 := by kernel_rfl
theorem pb5 : pbytes? Try.prog 5 = some 1 := by kernel_rfl
theorem zv5 : zeroV Try.prog 5 = some (.int .u8 0) := by kernel_rfl
theorem sz6 : psize? Try.prog 6 = some 1 := by kernel_rfl
theorem pb6 : pbytes? Try.prog 6 = some 1 := by kernel_rfl
theorem zv6 : zeroV Try.prog 6 = some (.int .u8 0) := by kernel_rfl
theorem sz7 : psize? Try.prog 7 = some 4 := by kernel_rfl
theorem pb7 : pbytes? Try.prog 7 = some 24 := by kernel_rfl
theorem zv7 : zeroV Try.prog 7 = some (.agg #[.int .i64 0, .int .i64 0, .bool false, .int .u8 0]) := by kernel_rfl
theorem sz8 : psize? Try.prog 8 = some 4 := by kernel_rfl
theorem pb8 : pbytes? Try.prog 8 = some 24 := by kernel_rfl
theorem zv8 : zeroV Try.prog 8 = some (.agg #[.int .i64 0, .int .i64 0, .bool false, .int .u8 0]) := by kernel_rfl
theorem sz9 : psize? Try.prog 9 = some 1 := by kernel_rfl
theorem pb9 : pbytes? Try.prog 9 = some 16 := by kernel_rfl
theorem zv9 : zeroV Try.prog 9 = some (.string ⟨#[]⟩) := by kernel_rfl
theorem sz10 : psize? Try.prog 10 = some 1 := by kernel_rfl
theorem pb10 : pbytes? Try.prog 10 = some 16 := by kernel_rfl
theorem zv10 : zeroV Try.prog 10 = some (.string ⟨#[]⟩) := by kernel_rfl
theorem sz11 : psize? Try.prog 11 = some 1 := by kernel_rfl
theorem pb11 : pbytes? Try.prog 11 = some 16 := by kernel_rfl
theorem zv11 : zeroV Try.prog 11 = some (.string ⟨#[]⟩) := by kernel_rfl
theorem sz12 : psize? Try.prog 12 = some 1 := by kernel_rfl
theorem pb12 : pbytes? Try.prog 12 = some 8 := by kernel_rfl
theorem zv12 : zeroV Try.prog 12 = some (.int .u64 0) := by kernel_rfl
theorem sz13 : psize? Try.prog 13 = some 2 := by kernel_rfl
theorem pb13 : pbytes? Try.prog 13 = some 24 := by kernel_rfl
theorem zv13 : zeroV Try.prog 13 = some (.agg #[.string ⟨#[]⟩, .int .u64 0]) := by kernel_rfl
theorem sz14 : psize? Try.prog 14 = some 2 := by kernel_rfl
theorem pb14 : pbytes? Try.prog 14 = some 24 := by kernel_rfl
theorem zv14 : zeroV Try.prog 14 = some (.agg #[.string ⟨#[]⟩, .int .u64 0]) := by kernel_rfl
theorem sz15 : psize? Try.prog 15 = some 1 := by kernel_rfl
theorem pb15 : pbytes? Try.prog 15 = some 8 := by kernel_rfl
theorem zv15 : zeroV Try.prog 15 = some (.pointer none) := by kernel_rfl
theorem sz16 : psize? Try.prog 16 = some 1 := by kernel_rfl
theorem pb16 : pbytes? Try.prog 16 = some 8 := by kernel_rfl
theorem zv16 : zeroV Try.prog 16 = some (.pointer none) := by kernel_rfl
theorem sz17 : psize? Try.prog 17 = some 1 := by kernel_rfl
theorem pb17 : pbytes? Try.prog 17 = some 8 := by kernel_rfl
theorem zv17 : zeroV Try.prog 17 = some (.pointer none) := by kernel_rfl
theorem sz18 : psize? Try.prog 18 = some 1 := by kernel_rfl
theorem pb18 : pbytes? Try.prog 18 = some 8 := by kernel_rfl
theorem zv18 : zeroV Try.prog 18 = some (.agg #[.pointer none]) := by kernel_rfl
theorem sz19 : psize? Try.prog 19 = some 1 := by kernel_rfl
theorem pb19 : pbytes? Try.prog 19 = some 8 := by kernel_rfl
theorem zv19 : zeroV Try.prog 19 = some (.agg #[.pointer none]) := by kernel_rfl
theorem sz20 : psize? Try.prog 20 = some 1 := by kernel_rfl
theorem pb20 : pbytes? Try.prog 20 = some 16 := by kernel_rfl
theorem zv20 : zeroV Try.prog 20 = some .nilIface := by kernel_rfl
theorem sz21 : psize? Try.prog 21 = some 1 := by kernel_rfl
theorem pb21 : pbytes? Try.prog 21 = some 4 := by kernel_rfl
theorem zv21 : zeroV Try.prog 21 = some (.int .i32 0) := by kernel_rfl
theorem sz22 : psize? Try.prog 22 = some 1 := by kernel_rfl
theorem pb22 : pbytes? Try.prog 22 = some 24 := by kernel_rfl
theorem zv22 : zeroV Try.prog 22 = some (.slice none 0 0) := by kernel_rfl
theorem sz23 : psize? Try.prog 23 = some 1 := by kernel_rfl
theorem pb23 : pbytes? Try.prog 23 = some 24 := by kernel_rfl
theorem zv23 : zeroV Try.prog 23 = some (.slice none 0 0) := by kernel_rfl
theorem sz24 : psize? Try.prog 24 = some 1 := by kernel_rfl
theorem pb24 : pbytes? Try.prog 24 = some 24 := by kernel_rfl
theorem zv24 : zeroV Try.prog 24 = some (.slice none 0 0) := by kernel_rfl
theorem sz25 : psize? Try.prog 25 = some 2 := by kernel_rfl
theorem pb25 : pbytes? Try.prog 25 = some 32 := by kernel_rfl
theorem zv25 : zeroV Try.prog 25 = some (.agg #[.slice none 0 0, .bool false]) := by kernel_rfl
theorem sz26 : psize? Try.prog 26 = some 2 := by kernel_rfl
theorem pb26 : pbytes? Try.prog 26 = some 32 := by kernel_rfl
theorem zv26 : zeroV Try.prog 26 = some (.agg #[.slice none 0 0, .bool false]) := by kernel_rfl
theorem sz27 : psize? Try.prog 27 = some 1 := by kernel_rfl
theorem pb27 : pbytes? Try.prog 27 = some 8 := by kernel_rfl
theorem zv27 : zeroV Try.prog 27 = some .nilFunc := by kernel_rfl
theorem sz28 : psize? Try.prog 28 = some 1 := by kernel_rfl
theorem pb28 : pbytes? Try.prog 28 = some 8 := by kernel_rfl
theorem zv28 : zeroV Try.prog 28 = some .nilFunc := by kernel_rfl
theorem sz29 : psize? Try.prog 29 = some 1 := by kernel_rfl
theorem pb29 : pbytes? Try.prog 29 = some 8 := by kernel_rfl
theorem zv29 : zeroV Try.prog 29 = some .nilFunc := by kernel_rfl
theorem sz30 : psize? Try.prog 30 = some 1 := by kernel_rfl
theorem pb30 : pbytes? Try.prog 30 = some 8 := by kernel_rfl
theorem zv30 : zeroV Try.prog 30 = some (.pointer none) := by kernel_rfl
theorem sz31 : psize? Try.prog 31 = some 1 := by kernel_rfl
theorem pb31 : pbytes? Try.prog 31 = some 16 := by kernel_rfl
theorem zv31 : zeroV Try.prog 31 = some .nilIface := by kernel_rfl
theorem sz32 : psize? Try.prog 32 = some 1 := by kernel_rfl
theorem pb32 : pbytes? Try.prog 32 = some 16 := by kernel_rfl
theorem zv32 : zeroV Try.prog 32 = some .nilIface := by kernel_rfl
theorem zv33 : zeroV Try.prog 33 = some (.tuple #[.pointer none, .nilIface]) := by kernel_rfl
theorem sz34 : psize? Try.prog 34 = some 1 := by kernel_rfl
theorem pb34 : pbytes? Try.prog 34 = some 8 := by kernel_rfl
theorem zv34 : zeroV Try.prog 34 = some .nilFunc := by kernel_rfl
theorem sz35 : psize? Try.prog 35 = some 1 := by kernel_rfl
theorem pb35 : pbytes? Try.prog 35 = some 24 := by kernel_rfl
theorem zv35 : zeroV Try.prog 35 = some (.slice none 0 0) := by kernel_rfl
theorem sz36 : psize? Try.prog 36 = some 2 := by kernel_rfl
theorem pb36 : pbytes? Try.prog 36 = some 48 := by kernel_rfl
theorem zv36 : zeroV Try.prog 36 = some (.agg #[.slice none 0 0, .slice none 0 0]) := by kernel_rfl
theorem sz37 : psize? Try.prog 37 = some 2 := by kernel_rfl
theorem pb37 : pbytes? Try.prog 37 = some 48 := by kernel_rfl
theorem zv37 : zeroV Try.prog 37 = some (.agg #[.slice none 0 0, .slice none 0 0]) := by kernel_rfl
theorem sz38 : psize? Try.prog 38 = some 1 := by kernel_rfl
theorem pb38 : pbytes? Try.prog 38 = some 24 := by kernel_rfl
theorem zv38 : zeroV Try.prog 38 = some (.slice none 0 0) := by kernel_rfl
theorem sz39 : psize? Try.prog 39 = some 4 := by kernel_rfl
theorem pb39 : pbytes? Try.prog 39 = some 72 := by kernel_rfl
theorem zv39 : zeroV Try.prog 39 = some (.agg #[.slice none 0 0, .bool false, .string ⟨#[]⟩, .slice none 0 0]) := by kernel_rfl
theorem sz40 : psize? Try.prog 40 = some 4 := by kernel_rfl
theorem pb40 : pbytes? Try.prog 40 = some 72 := by kernel_rfl
theorem zv40 : zeroV Try.prog 40 = some (.agg #[.slice none 0 0, .bool false, .string ⟨#[]⟩, .slice none 0 0]) := by kernel_rfl
theorem sz41 : psize? Try.prog 41 = some 5 := by kernel_rfl
theorem pb41 : pbytes? Try.prog 41 = some 80 := by kernel_rfl
theorem zv41 : zeroV Try.prog 41 = some (.agg #[.int .i64 0, .slice none 0 0, .bool false, .string ⟨#[]⟩, .slice none 0 0]) := by kernel_rfl
theorem sz42 : psize? Try.prog 42 = some 5 := by kernel_rfl
theorem pb42 : pbytes? Try.prog 42 = some 80 := by kernel_rfl
theorem zv42 : zeroV Try.prog 42 = some (.agg #[.int .i64 0, .slice none 0 0, .bool false, .string ⟨#[]⟩, .slice none 0 0]) := by kernel_rfl
theorem sz43 : psize? Try.prog 43 = some 1 := by kernel_rfl
theorem pb43 : pbytes? Try.prog 43 = some 8 := by kernel_rfl
theorem zv43 : zeroV Try.prog 43 = some .nilFunc := by kernel_rfl
theorem sz44 : psize? Try.prog 44 = some 2 := by kernel_rfl
theorem pb44 : pbytes? Try.prog 44 = some 32 := by kernel_rfl
theorem zv44 : zeroV Try.prog 44 = some (.agg #[.slice none 0 0, .bool false]) := by kernel_rfl
theorem sz45 : psize? Try.prog 45 = some 1 := by kernel_rfl
theorem pb45 : pbytes? Try.prog 45 = some 8 := by kernel_rfl
theorem zv45 : zeroV Try.prog 45 = some .nilFunc := by kernel_rfl
theorem sz46 : psize? Try.prog 46 = some 2 := by kernel_rfl
theorem pb46 : pbytes? Try.prog 46 = some 16 := by kernel_rfl
theorem zv46 : zeroV Try.prog 46 = some (.agg #[.int .i64 0, .int .i64 0]) := by kernel_rfl
theorem sz47 : psize? Try.prog 47 = some 2 := by kernel_rfl
theorem pb47 : pbytes? Try.prog 47 = some 16 := by kernel_rfl
theorem zv47 : zeroV Try.prog 47 = some (.agg #[.int .i64 0, .int .i64 0]) := by kernel_rfl
theorem sz48 : psize? Try.prog 48 = some 1 := by kernel_rfl
theorem pb48 : pbytes? Try.prog 48 = some 8 := by kernel_rfl
theorem zv48 : zeroV Try.prog 48 = some .nilFunc := by kernel_rfl
theorem sz49 : psize? Try.prog 49 = some 1 := by kernel_rfl
theorem pb49 : pbytes? Try.prog 49 = some 8 := by kernel_rfl
theorem zv49 : zeroV Try.prog 49 = some .nilFunc := by kernel_rfl
theorem sz50 : psize? Try.prog 50 = some 1 := by kernel_rfl
theorem pb50 : pbytes? Try.prog 50 = some 8 := by kernel_rfl
theorem zv50 : zeroV Try.prog 50 = some .nilFunc := by kernel_rfl
theorem sz51 : psize? Try.prog 51 = some 1 := by kernel_rfl
theorem pb51 : pbytes? Try.prog 51 = some 8 := by kernel_rfl
theorem zv51 : zeroV Try.prog 51 = some .nilFunc := by kernel_rfl
theorem sz52 : psize? Try.prog 52 = some 1 := by kernel_rfl
theorem pb52 : pbytes? Try.prog 52 = some 8 := by kernel_rfl
theorem zv52 : zeroV Try.prog 52 = some .nilFunc := by kernel_rfl
theorem sz53 : psize? Try.prog 53 = some 1 := by kernel_rfl
theorem pb53 : pbytes? Try.prog 53 = some 8 := by kernel_rfl
theorem zv53 : zeroV Try.prog 53 = some .nilFunc := by kernel_rfl
theorem sz54 : psize? Try.prog 54 = some 1 := by kernel_rfl
theorem pb54 : pbytes? Try.prog 54 = some 8 := by kernel_rfl
theorem zv54 : zeroV Try.prog 54 = some .nilFunc := by kernel_rfl
theorem sz55 : psize? Try.prog 55 = some 1 := by kernel_rfl
theorem pb55 : pbytes? Try.prog 55 = some 8 := by kernel_rfl
theorem zv55 : zeroV Try.prog 55 = some .nilFunc := by kernel_rfl
theorem sz56 : psize? Try.prog 56 = some 1 := by kernel_rfl
theorem pb56 : pbytes? Try.prog 56 = some 8 := by kernel_rfl
theorem zv56 : zeroV Try.prog 56 = some .nilFunc := by kernel_rfl
theorem sz57 : psize? Try.prog 57 = some 1 := by kernel_rfl
theorem pb57 : pbytes? Try.prog 57 = some 8 := by kernel_rfl
theorem zv57 : zeroV Try.prog 57 = some (.pointer none) := by kernel_rfl
theorem sz58 : psize? Try.prog 58 = some 1 := by kernel_rfl
theorem pb58 : pbytes? Try.prog 58 = some 8 := by kernel_rfl
theorem zv58 : zeroV Try.prog 58 = some (.map none) := by kernel_rfl
theorem sz59 : psize? Try.prog 59 = some 1 := by kernel_rfl
theorem pb59 : pbytes? Try.prog 59 = some 8 := by kernel_rfl
theorem zv59 : zeroV Try.prog 59 = some (.pointer none) := by kernel_rfl
theorem sz60 : psize? Try.prog 60 = some 2 := by kernel_rfl
theorem pb60 : pbytes? Try.prog 60 = some 16 := by kernel_rfl
theorem zv60 : zeroV Try.prog 60 = some (.agg #[.map none, .pointer none]) := by kernel_rfl
theorem sz61 : psize? Try.prog 61 = some 2 := by kernel_rfl
theorem pb61 : pbytes? Try.prog 61 = some 16 := by kernel_rfl
theorem zv61 : zeroV Try.prog 61 = some (.agg #[.map none, .pointer none]) := by kernel_rfl
theorem sz62 : psize? Try.prog 62 = some 2 := by kernel_rfl
theorem pb62 : pbytes? Try.prog 62 = some 32 := by kernel_rfl
theorem zv62 : zeroV Try.prog 62 = some (.agg #[.pointer none, .slice none 0 0]) := by kernel_rfl
theorem sz63 : psize? Try.prog 63 = some 2 := by kernel_rfl
theorem pb63 : pbytes? Try.prog 63 = some 32 := by kernel_rfl
theorem zv63 : zeroV Try.prog 63 = some (.agg #[.pointer none, .slice none 0 0]) := by kernel_rfl
theorem sz64 : psize? Try.prog 64 = some 1 := by kernel_rfl
theorem pb64 : pbytes? Try.prog 64 = some 8 := by kernel_rfl
theorem zv64 : zeroV Try.prog 64 = some .nilFunc := by kernel_rfl
theorem sz65 : psize? Try.prog 65 = some 1 := by kernel_rfl
theorem pb65 : pbytes? Try.prog 65 = some 8 := by kernel_rfl
theorem zv65 : zeroV Try.prog 65 = some .nilFunc := by kernel_rfl
theorem sz66 : psize? Try.prog 66 = some 1 := by kernel_rfl
theorem pb66 : pbytes? Try.prog 66 = some 8 := by kernel_rfl
theorem zv66 : zeroV Try.prog 66 = some (.int .i64 0) := by kernel_rfl
theorem sz67 : psize? Try.prog 67 = some 1 := by kernel_rfl
theorem pb67 : pbytes? Try.prog 67 = some 8 := by kernel_rfl
theorem zv67 : zeroV Try.prog 67 = some .nilFunc := by kernel_rfl
theorem sz68 : psize? Try.prog 68 = some 1 := by kernel_rfl
theorem pb68 : pbytes? Try.prog 68 = some 8 := by kernel_rfl
theorem zv68 : zeroV Try.prog 68 = some .nilFunc := by kernel_rfl
theorem sz69 : psize? Try.prog 69 = some 1 := by kernel_rfl
theorem pb69 : pbytes? Try.prog 69 = some 8 := by kernel_rfl
theorem zv69 : zeroV Try.prog 69 = some .nilFunc := by kernel_rfl
theorem zv70 : zeroV Try.prog 70 = some (.tuple #[.agg #[.slice none 0 0, .bool false, .string ⟨#[]⟩, .slice none 0 0], .bool false]) := by kernel_rfl
theorem sz71 : psize? Try.prog 71 = some 1 := by kernel_rfl
theorem pb71 : pbytes? Try.prog 71 = some 8 := by kernel_rfl
theorem zv71 : zeroV Try.prog 71 = some .nilFunc := by kernel_rfl
theorem sz72 : psize? Try.prog 72 = some 1 := by kernel_rfl
theorem pb72 : pbytes? Try.prog 72 = some 8 := by kernel_rfl
theorem zv72 : zeroV Try.prog 72 = some (.pointer none) := by kernel_rfl
theorem sz73 : psize? Try.prog 73 = some 1 := by kernel_rfl
theorem pb73 : pbytes? Try.prog 73 = some 8 := by kernel_rfl
theorem zv73 : zeroV Try.prog 73 = some .nilFunc := by kernel_rfl
theorem sz74 : psize? Try.prog 74 = some 1 := by kernel_rfl
theorem pb74 : pbytes? Try.prog 74 = some 8 := by kernel_rfl
theorem zv74 : zeroV Try.prog 74 = some .nilFunc := by kernel_rfl
theorem sz75 : psize? Try.prog 75 = some 1 := by kernel_rfl
theorem pb75 : pbytes? Try.prog 75 = some 8 := by kernel_rfl
theorem zv75 : zeroV Try.prog 75 = some .nilFunc := by kernel_rfl
theorem sz76 : psize? Try.prog 76 = some 1 := by kernel_rfl
theorem pb76 : pbytes? Try.prog 76 = some 8 := by kernel_rfl
theorem zv76 : zeroV Try.prog 76 = some .nilFunc := by kernel_rfl
theorem sz77 : psize? Try.prog 77 = some 1 := by kernel_rfl
theorem pb77 : pbytes? Try.prog 77 = some 8 := by kernel_rfl
theorem zv77 : zeroV Try.prog 77 = some .nilFunc := by kernel_rfl
theorem sz78 : psize? Try.prog 78 = some 1 := by kernel_rfl
theorem pb78 : pbytes? Try.prog 78 = some 8 := by kernel_rfl
theorem zv78 : zeroV Try.prog 78 = some .nilFunc := by kernel_rfl
theorem sz79 : psize? Try.prog 79 = some 1 := by kernel_rfl
theorem pb79 : pbytes? Try.prog 79 = some 8 := by kernel_rfl
theorem zv79 : zeroV Try.prog 79 = some .nilFunc := by kernel_rfl
theorem sz80 : psize? Try.prog 80 = some 1 := by kernel_rfl
theorem pb80 : pbytes? Try.prog 80 = some 8 := by kernel_rfl
theorem zv80 : zeroV Try.prog 80 = some .nilFunc := by kernel_rfl
theorem sz81 : psize? Try.prog 81 = some 2 := by kernel_rfl
theorem pb81 : pbytes? Try.prog 81 = some 16 := by kernel_rfl
theorem zv81 : zeroV Try.prog 81 = some (.agg #[.int .i64 0, .int .i64 0]) := by kernel_rfl
theorem sz82 : psize? Try.prog 82 = some 2 := by kernel_rfl
theorem pb82 : pbytes? Try.prog 82 = some 16 := by kernel_rfl
theorem zv82 : zeroV Try.prog 82 = some (.agg #[.int .i64 0, .int .i64 0]) := by kernel_rfl
theorem sz83 : psize? Try.prog 83 = some 1 := by kernel_rfl
theorem pb83 : pbytes? Try.prog 83 = some 8 := by kernel_rfl
theorem zv83 : zeroV Try.prog 83 = some .nilFunc := by kernel_rfl
theorem sz84 : psize? Try.prog 84 = some 1 := by kernel_rfl
theorem pb84 : pbytes? Try.prog 84 = some 8 := by kernel_rfl
theorem zv84 : zeroV Try.prog 84 = some .nilFunc := by kernel_rfl
theorem sz85 : psize? Try.prog 85 = some 1 := by kernel_rfl
theorem pb85 : pbytes? Try.prog 85 = some 8 := by kernel_rfl
theorem zv85 : zeroV Try.prog 85 = some .nilFunc := by kernel_rfl
theorem sz86 : psize? Try.prog 86 = some 1 := by kernel_rfl
theorem pb86 : pbytes? Try.prog 86 = some 8 := by kernel_rfl
theorem zv86 : zeroV Try.prog 86 = some .nilFunc := by kernel_rfl
theorem sz87 : psize? Try.prog 87 = some 1 := by kernel_rfl
theorem pb87 : pbytes? Try.prog 87 = some 8 := by kernel_rfl
theorem zv87 : zeroV Try.prog 87 = some .nilFunc := by kernel_rfl
theorem sz88 : psize? Try.prog 88 = some 1 := by kernel_rfl
theorem pb88 : pbytes? Try.prog 88 = some 8 := by kernel_rfl
theorem zv88 : zeroV Try.prog 88 = some .nilFunc := by kernel_rfl
theorem sz89 : psize? Try.prog 89 = some 1 := by kernel_rfl
theorem pb89 : pbytes? Try.prog 89 = some 8 := by kernel_rfl
theorem zv89 : zeroV Try.prog 89 = some .nilFunc := by kernel_rfl
theorem sz90 : psize? Try.prog 90 = some 1 := by kernel_rfl
theorem pb90 : pbytes? Try.prog 90 = some 8 := by kernel_rfl
theorem zv90 : zeroV Try.prog 90 = some .nilFunc := by kernel_rfl
theorem sz91 : psize? Try.prog 91 = some 1 := by kernel_rfl
theorem pb91 : pbytes? Try.prog 91 = some 8 := by kernel_rfl
theorem zv91 : zeroV Try.prog 91 = some .nilFunc := by kernel_rfl
theorem sz92 : psize? Try.prog 92 = some 1 := by kernel_rfl
theorem pb92 : pbytes? Try.prog 92 = some 8 := by kernel_rfl
theorem zv92 : zeroV Try.prog 92 = some .nilFunc := by kernel_rfl
theorem sz93 : psize? Try.prog 93 = some 1 := by kernel_rfl
theorem pb93 : pbytes? Try.prog 93 = some 8 := by kernel_rfl
theorem zv93 : zeroV Try.prog 93 = some .nilFunc := by kernel_rfl
theorem sz94 : psize? Try.prog 94 = some 1 := by kernel_rfl
theorem pb94 : pbytes? Try.prog 94 = some 8 := by kernel_rfl
theorem zv94 : zeroV Try.prog 94 = some .nilFunc := by kernel_rfl
theorem sz95 : psize? Try.prog 95 = some 256 := by kernel_rfl
theorem pb95 : pbytes? Try.prog 95 = some 256 := by kernel_rfl
theorem zv95 : zeroV Try.prog 95 = some (.agg #[.bool false, .bool false, .bool false, .bool false, .bool false, .bool false, .bool false, .bool false, .bool false, .bool false, .bool false, .bool false, .bool false, .bool false, .bool false, .bool false, .bool false, .bool false, .bool false, .bool false, .bool false, .bool false, .bool false, .bool false, .bool false, .bool false, .bool false, .bool false, .bool false, .bool false, .bool false, .bool false, .bool false, .bool false, .bool false, .bool false, .bool false, .bool false, .bool false, .bool false, .bool false, .bool false, .bool false, .bool false, .bool false, .bool false, .bool false, .bool false, .bool false, .bool false, .bool false, .bool false, .bool false, .bool false, .bool false, .bool false, .bool false, .bool false, .bool false, .bool false, .bool false, .bool false, .bool false, .bool false, .bool false, .bool false, .bool false, .bool false, .bool false, .bool false, .bool false, .bool false, .bool false, .bool false, .bool false, .bool false, .bool false, .bool false, .bool false, .bool false, .bool false, .bool false, .bool false, .bool false, .bool false, .bool false, .bool false, .bool false, .bool false, .bool false, .bool false, .bool false, .bool false, .bool false, .bool false, .bool false, .bool false, .bool false, .bool false, .bool false, .bool false, .bool false, .bool false, .bool false, .bool false, .bool false, .bool false, .bool false, .bool false, .bool false, .bool false, .bool false, .bool false, .bool false, .bool false, .bool false, .bool false, .bool false, .bool false, .bool false, .bool false, .bool false, .bool false, .bool false, .bool false, .bool false, .bool false, .bool false, .bool false, .bool false, .bool false, .bool false, .bool false, .bool false, .bool false, .bool false, .bool false, .bool false, .bool false, .bool false, .bool false, .bool false, .bool false, .bool false, .bool false, .bool false, .bool false, .bool false, .bool false, .bool false, .bool false, .bool false, .bool false, .bool false, .bool false, .bool false, .bool false, .bool false, .bool false, .bool false, .bool false, .bool false, .bool false, .bool false, .bool false, .bool false, .bool false, .bool false, .bool false, .bool false, .bool false, .bool false, .bool false, .bool false, .bool false, .bool false, .bool false, .bool false, .bool false, .bool false, .bool false, .bool false, .bool false, .bool false, .bool false, .bool false, .bool false, .bool false, .bool false, .bool false, .bool false, .bool false, .bool false, .bool false, .bool false, .bool false, .bool false, .bool false, .bool false, .bool false, .bool false, .bool false, .bool false, .bool false, .bool false, .bool false, .bool false, .bool false, .bool false, .bool false, .bool false, .bool false, .bool false, .bool false, .bool false, .bool false, .bool false, .bool false, .bool false, .bool false, .bool false, .bool false, .bool false, .bool false, .bool false, .bool false, .bool false, .bool false, .bool false, .bool false, .bool false, .bool false, .bool false, .bool false, .bool false, .bool false, .bool false, .bool false, .bool false, .bool false, .bool false, .bool false, .bool false, .bool false, .bool false, .bool false, .bool false, .bool false, .bool false, .bool false, .bool false, .bool false, .bool false, .bool false, .bool false, .bool false]) := by kernel_rfl
theorem sz96 : psize? Try.prog 96 = some 256 := by kernel_rfl
theorem pb96 : pbytes? Try.prog 96 = some 256 := by kernel_rfl
theorem zv96 : zeroV Try.prog 96 = some (.agg #[.bool false, .bool false, .bool false, .bool false, .bool false, .bool false, .bool false, .bool false, .bool false, .bool false, .bool false, .bool false, .bool false, .bool false, .bool false, .bool false, .bool false, .bool false, .bool false, .bool false, .bool false, .bool false, .bool false, .bool false, .bool false, .bool false, .bool false, .bool false, .bool false, .bool false, .bool false, .bool false, .bool false, .bool false, .bool false, .bool false, .bool false, .bool false, .bool false, .bool false, .bool false, .bool false, .bool false, .bool false, .bool false, .bool false, .bool false, .bool false, .bool false, .bool false, .bool false, .bool false, .bool false, .bool false, .bool false, .bool false, .bool false, .bool false, .bool false, .bool false, .bool false, .bool false, .bool false, .bool false, .bool false, .bool false, .bool false, .bool false, .bool false, .bool false, .bool false, .bool false, .bool false, .bool false, .bool false, .bool false, .bool false, .bool false, .bool false, .bool false, .bool false, .bool false, .bool false, .bool false, .bool false, .bool false, .bool false, .bool false, .bool false, .bool false, .bool false, .bool false, .bool false, .bool false, .bool false, .bool false, .bool false, .bool false, .bool false, .bool false, .bool false, .bool false, .bool false, .bool false, .bool false, .bool false, .bool false, .bool false, .bool false, .bool false, .bool false, .bool false, .bool false, .bool false, .bool false, .bool false, .bool false, .bool false, .bool false, .bool false, .bool false, .bool false, .bool false, .bool false, .bool false, .bool false, .bool false, .bool false, .bool false, .bool false, .bool false, .bool false, .bool false, .bool false, .bool false, .bool false, .bool false, .bool false, .bool false, .bool false, .bool false, .bool false, .bool false, .bool false, .bool false, .bool false, .bool false, .bool false, .bool false, .bool false, .bool false, .bool false, .bool false, .bool false, .bool false, .bool false, .bool false, .bool false, .bool false, .bool false, .bool false, .bool false, .bool false, .bool false, .bool false, .bool false, .bool false, .bool false, .bool false, .bool false, .bool false, .bool false, .bool false, .bool false, .bool false, .bool false, .bool false, .bool false, .bool false, .bool false, .bool false, .bool false, .bool false, .bool false, .bool false, .bool false, .bool false, .bool false, .bool false, .bool false, .bool false, .bool false, .bool false, .bool false, .bool false, .bool false, .bool false, .bool false, .bool false, .bool false, .bool false, .bool false, .bool false, .bool false, .bool false, .bool false, .bool false, .bool false, .bool false, .bool false, .bool false, .bool false, .bool false, .bool false, .bool false, .bool false, .bool false, .bool false, .bool false, .bool false, .bool false, .bool false, .bool false, .bool false, .bool false, .bool false, .bool false, .bool false, .bool false, .bool false, .bool false, .bool false, .bool false, .bool false, .bool false, .bool false, .bool false, .bool false, .bool false, .bool false, .bool false, .bool false, .bool false, .bool false, .bool false, .bool false, .bool false, .bool false, .bool false, .bool false, .bool false, .bool false, .bool false, .bool false, .bool false, .bool false]) := by kernel_rfl
theorem zv97 : zeroV Try.prog 97 = some (.tuple #[.agg #[.bool false, .bool false, .bool false, .bool false, .bool false, .bool false, .bool false, .bool false, .bool false, .bool false, .bool false, .bool false, .bool false, .bool false, .bool false, .bool false, .bool false, .bool false, .bool false, .bool false, .bool false, .bool false, .bool false, .bool false, .bool false, .bool false, .bool false, .bool false, .bool false, .bool false, .bool false, .bool false, .bool false, .bool false, .bool false, .bool false, .bool false, .bool false, .bool false, .bool false, .bool false, .bool false, .bool false, .bool false, .bool false, .bool false, .bool false, .bool false, .bool false, .bool false, .bool false, .bool false, .bool false, .bool false, .bool false, .bool false, .bool false, .bool false, .bool false, .bool false, .bool false, .bool false, .bool false, .bool false, .bool false, .bool false, .bool false, .bool false, .bool false, .bool false, .bool false, .bool false, .bool false, .bool false, .bool false, .bool false, .bool false, .bool false, .bool false, .bool false, .bool false, .bool false, .bool false, .bool false, .bool false, .bool false, .bool false, .bool false, .bool false, .bool false, .bool false, .bool false, .bool false, .bool false, .bool false, .bool false, .bool false, .bool false, .bool false, .bool false, .bool false, .bool false, .bool false, .bool false, .bool false, .bool false, .bool false, .bool false, .bool false, .bool false, .bool false, .bool false, .bool false, .bool false, .bool false, .bool false, .bool false, .bool false, .bool false, .bool false, .bool false, .bool false, .bool false, .bool false, .bool false, .bool false, .bool false, .bool false, .bool false, .bool false, .bool false, .bool false, .bool false, .bool false, .bool false, .bool false, .bool false, .bool false, .bool false, .bool false, .bool false, .bool false, .bool false, .bool false, .bool false, .bool false, .bool false, .bool false, .bool false, .bool false, .bool false, .bool false, .bool false, .bool false, .bool false, .bool false, .bool false, .bool false, .bool false, .bool false, .bool false, .bool false, .bool false, .bool false, .bool false, .bool false, .bool false, .bool false, .bool false, .bool false, .bool false, .bool false, .bool false, .bool false, .bool false, .bool false, .bool false, .bool false, .bool false, .bool false, .bool false, .bool false, .bool false, .bool false, .bool false, .bool false, .bool false, .bool false, .bool false, .bool false, .bool false, .bool false, .bool false, .bool false, .bool false, .bool false, .bool false, .bool false, .bool false, .bool false, .bool false, .bool false, .bool false, .bool false, .bool false, .bool false, .bool false, .bool false, .bool false, .bool false, .bool false, .bool false, .bool false, .bool false, .bool false, .bool false, .bool false, .bool false, .bool false, .bool false, .bool false, .bool false, .bool false, .bool false, .bool false, .bool false, .bool false, .bool false, .bool false, .bool false, .bool false, .bool false, .bool false, .bool false, .bool false, .bool false, .bool false, .bool false, .bool false, .bool false, .bool false, .bool false, .bool false, .bool false, .bool false, .bool false, .bool false, .bool false, .bool false, .bool false, .bool false, .bool false, .bool false, .bool false, .bool false, .bool false], .bool false]) := by kernel_rfl
theorem sz98 : psize? Try.prog 98 = some 1 := by kernel_rfl
theorem pb98 : pbytes? Try.prog 98 = some 8 := by kernel_rfl
theorem zv98 : zeroV Try.prog 98 = some .nilFunc := by kernel_rfl
theorem sz99 : psize? Try.prog 99 = some 1 := by kernel_rfl
theorem pb99 : pbytes? Try.prog 99 = some 8 := by kernel_rfl
theorem zv99 : zeroV Try.prog 99 = some .nilFunc := by kernel_rfl
theorem sz100 : psize? Try.prog 100 = some 1 := by kernel_rfl
theorem pb100 : pbytes? Try.prog 100 = some 8 := by kernel_rfl
theorem zv100 : zeroV Try.prog 100 = some .nilFunc := by kernel_rfl
theorem sz101 : psize? Try.prog 101 = some 1 := by kernel_rfl
theorem pb101 : pbytes? Try.prog 101 = some 8 := by kernel_rfl
theorem zv101 : zeroV Try.prog 101 = some .nilFunc := by kernel_rfl
theorem sz102 : psize? Try.prog 102 = some 1 := by kernel_rfl
theorem pb102 : pbytes? Try.prog 102 = some 8 := by kernel_rfl
theorem zv102 : zeroV Try.prog 102 = some (.int .u64 0) := by kernel_rfl
theorem sz103 : psize? Try.prog 103 = some 1 := by kernel_rfl
theorem pb103 : pbytes? Try.prog 103 = some 8 := by kernel_rfl
theorem zv103 : zeroV Try.prog 103 = some (.pointer none) := by kernel_rfl
theorem sz104 : psize? Try.prog 104 = some 4 := by kernel_rfl
theorem pb104 : pbytes? Try.prog 104 = some 40 := by kernel_rfl
theorem zv104 : zeroV Try.prog 104 = some (.agg #[.pointer none, .pointer none, .pointer none, .string ⟨#[]⟩]) := by kernel_rfl
theorem sz105 : psize? Try.prog 105 = some 4 := by kernel_rfl
theorem pb105 : pbytes? Try.prog 105 = some 40 := by kernel_rfl
theorem zv105 : zeroV Try.prog 105 = some (.agg #[.pointer none, .pointer none, .pointer none, .string ⟨#[]⟩]) := by kernel_rfl
theorem sz106 : psize? Try.prog 106 = some 0 := by kernel_rfl
theorem pb106 : pbytes? Try.prog 106 = some 0 := by kernel_rfl
theorem zv106 : zeroV Try.prog 106 = some (.agg #[]) := by kernel_rfl
theorem sz107 : psize? Try.prog 107 = some 0 := by kernel_rfl
theorem pb107 : pbytes? Try.prog 107 = some 0 := by kernel_rfl
theorem zv107 : zeroV Try.prog 107 = some (.agg #[]) := by kernel_rfl
theorem sz108 : psize? Try.prog 108 = some 0 := by kernel_rfl
theorem pb108 : pbytes? Try.prog 108 = some 0 := by kernel_rfl
theorem zv108 : zeroV Try.prog 108 = some (.agg #[]) := by kernel_rfl
theorem sz109 : psize? Try.prog 109 = some 1 := by kernel_rfl
theorem pb109 : pbytes? Try.prog 109 = some 8 := by kernel_rfl
theorem zv109 : zeroV Try.prog 109 = some .nilFunc := by kernel_rfl
theorem sz110 : psize? Try.prog 110 = some 1 := by kernel_rfl
theorem pb110 : pbytes? Try.prog 110 = some 4 := by kernel_rfl
theorem zv110 : zeroV Try.prog 110 = some (.int .u32 0) := by kernel_rfl
theorem sz111 : psize? Try.prog 111 = some 1 := by kernel_rfl
theorem pb111 : pbytes? Try.prog 111 = some 1 := by kernel_rfl
theorem zv111 : zeroV Try.prog 111 = some (.int .u8 0) := by kernel_rfl
theorem sz112 : psize? Try.prog 112 = some 1 := by kernel_rfl
theorem pb112 : pbytes? Try.prog 112 = some 1 := by kernel_rfl
theorem zv112 : zeroV Try.prog 112 = some (.int .u8 0) := by kernel_rfl
theorem sz113 : psize? Try.prog 113 = some 1 := by kernel_rfl
theorem pb113 : pbytes? Try.prog 113 = some 8 := by kernel_rfl
theorem zv113 : zeroV Try.prog 113 = some .nilFunc := by kernel_rfl
theorem sz114 : psize? Try.prog 114 = some 1 := by kernel_rfl
theorem pb114 : pbytes? Try.prog 114 = some 8 := by kernel_rfl
theorem zv114 : zeroV Try.prog 114 = some (.pointer none) := by kernel_rfl
theorem sz115 : psize? Try.prog 115 = some 1 := by kernel_rfl
theorem pb115 : pbytes? Try.prog 115 = some 4 := by kernel_rfl
theorem zv115 : zeroV Try.prog 115 = some (.int .i32 0) := by kernel_rfl
theorem sz116 : psize? Try.prog 116 = some 1 := by kernel_rfl
theorem pb116 : pbytes? Try.prog 116 = some 4 := by kernel_rfl
theorem zv116 : zeroV Try.prog 116 = some (.int .i32 0) := by kernel_rfl
theorem sz117 : psize? Try.prog 117 = some 11 := by kernel_rfl
theorem pb117 : pbytes? Try.prog 117 = some 48 := by kernel_rfl
theorem zv117 : zeroV Try.prog 117 = some (.agg #[.int .u64 0, .int .u64 0, .int .u32 0, .int .u8 0, .int .u8 0, .int .u8 0, .int .u8 0, .nilFunc, .pointer none, .int .i32 0, .int .i32 0]) := by kernel_rfl
theorem sz118 : psize? Try.prog 118 = some 11 := by kernel_rfl
theorem pb118 : pbytes? Try.prog 118 = some 48 := by kernel_rfl
theorem zv118 : zeroV Try.prog 118 = some (.agg #[.int .u64 0, .int .u64 0, .int .u32 0, .int .u8 0, .int .u8 0, .int .u8 0, .int .u8 0, .nilFunc, .pointer none, .int .i32 0, .int .i32 0]) := by kernel_rfl
theorem sz119 : psize? Try.prog 119 = some 1 := by kernel_rfl
theorem pb119 : pbytes? Try.prog 119 = some 8 := by kernel_rfl
theorem zv119 : zeroV Try.prog 119 = some .nilFunc := by kernel_rfl
theorem sz120 : psize? Try.prog 120 = some 1 := by kernel_rfl
theorem pb120 : pbytes? Try.prog 120 = some 8 := by kernel_rfl
theorem zv120 : zeroV Try.prog 120 = some (.pointer none) := by kernel_rfl
theorem hm : Try.prog.follows .mixedOrders = true := by kernel_rfl
end Go.Proofs.Ytcdbjmahnhhoeaa
