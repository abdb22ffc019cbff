/- Top: a limit that is asked for holds so long: some rates. -/
import Derived.Test.YtajoogahcgbohaaGreatTmB
import Derived.Test.YtajoogahcgbohaaGreatTmC
import Derived.Test.YtajoogahcgbohaaGreatTmD
set_option linter.unusedVariables false
set_option linter.unusedSimpArgs false
set_option maxRecDepth 1000000
namespace Go.Proofs.YtajoogahcgbohaaGreatA
open Go.RowKit

def rn12 : Nat := 32317006071311008197719355940580316699133673062195521834369029167662744985545670507129080449024734734955220210318893440100972882268786012958134797668961669958688382446188960236695102948760695302988699202549090193598125135279416363061227149131014846495329965010885325518739243983860762439404182412409460616236497795630206259092059948294263314756199722076521539393869652145340673609144571543665139481772768617154989000491032895922112322222155737802946595073005980450087220885969367247921300274293088276069389073893905663342156817183437399378117682022942564594670419165942612210545870310727020594151930984074220413124835
def fn12 : AV := .float .f64 32317006071311014476559095721659746108077010262892255793849606585491217607189900998599169223083277923393133601342349494264612665457152946438100566675914992823171979664467213404509870449671867808189722373446899607681909596587462631722289429651532617878476303021501891088859353490815140565398377147381796700380795042021676917661388897112814978861333153522188605507597907904225139407409243561172438767030138517541664570641793868023826503469022166935830277536934788782198647336217763348777390708115146676122072058081427896346378382637834367092666867908727414665270883248724166488050279404775931353483467481143437055451367
def sp12 : Sp := ⟨[(2, 3), (0, 7), (0, 15), (0, 1), (0, 1), (0, 1), (0, 1), (0, 255), (0, 255), (0, 255), (0, 255), (0, 255), (0, 4096), (0, 0), (0, 1), (0, 1), (0, 1), (0, 1), (0, 1), (0, 1), (0, 1), (0, 1099511627775), (-18014398509481984, 18014398509481983), (0, 1), (0, 1), (0, 1), (0, 1), (0, 1)], fun u => (decL qn).at u = budF ((decL rn12).at u)⟩
theorem bo12 : BudOk sp12 rn12 qn := ⟨by kernel_rfl, by kernel_rfl, fun u h => h⟩
theorem run12 (n o w : Int) : chk3 n o w sp12 rn12 fn12 = true := by kernel_rfl
theorem box12 {n o w : Int} (hn : 0 ≤ n ∧ n < 18446744073709551616) (ho : -9223372036854775808 ≤ o ∧ o ≤ 9223372036854775807) (hw : 0 ≤ w ∧ w < 4294967296) (h1 : 8388608 ≤ 80 + n % 16777216) (h2 : 80 + n % 16777216 < 16777216) :
    EntryOk Tryz.prog 3 ∧ ∃ S2, Con Tryz.prog 3 [.int .u64 n, .int .i64 o, .int .u32 w] S0 (.bool true) S2 := by
  obtain ⟨N, hN⟩ : ∃ N, 80 + n % 16777216 = N := ⟨_, rfl⟩
  rw [hN] at h1 h2
  obtain ⟨Q, hQ⟩ : ∃ Q, budF ((decL rn12).at (asg (N / 128) (N / 128 / 128 % 8) (N / 128 / 16384 % 2) (N / 128 / 8192 % 2) (N / 128 / 4096 % 2) (N / 128 / 2048 % 2) (N / 128 / 1024 % 2) (0) (N / 64 % 2) (N / 32 % 2) (N / 16 % 2) (N / 8 % 2) (N / 4 % 2) (N / 2 % 2) (N / 1 % 2) (n / 16777216) o w 0)) = Q := ⟨_, rfl⟩
  have hr : (decL rn12).at (asg (N / 128) (N / 128 / 128 % 8) (N / 128 / 16384 % 2) (N / 128 / 8192 % 2) (N / 128 / 4096 % 2) (N / 128 / 2048 % 2) (N / 128 / 1024 % 2) (0) (N / 64 % 2) (N / 32 % 2) (N / 16 % 2) (N / 8 % 2) (N / 4 % 2) (N / 2 % 2) (N / 1 % 2) (n / 16777216) o w Q) = (decL rn12).at (asg (N / 128) (N / 128 / 128 % 8) (N / 128 / 16384 % 2) (N / 128 / 8192 % 2) (N / 128 / 4096 % 2) (N / 128 / 2048 % 2) (N / 128 / 1024 % 2) (0) (N / 64 % 2) (N / 32 % 2) (N / 16 % 2) (N / 8 % 2) (N / 4 % 2) (N / 2 % 2) (N / 1 % 2) (n / 16777216) o w 0) := by
    have h : decL rn12 = ⟨.i64, 0, [524288, 2048, 128, 64, 32, 16, 0, 0, 0, 0, 0, 0, 0, 0, 0, 0, 0, 0, 0, 0, 0, 0, 0, 262144, 131072, 65536, 32768, 16384]⟩ := by kernel_rfl
    rw [h]
    simp only [Ln.at, dot, asg, Nat.reduceAdd, Int.zero_mul]
  have hq := budF_in ((decL rn12).at (asg (N / 128) (N / 128 / 128 % 8) (N / 128 / 16384 % 2) (N / 128 / 8192 % 2) (N / 128 / 4096 % 2) (N / 128 / 2048 % 2) (N / 128 / 1024 % 2) (0) (N / 64 % 2) (N / 32 % 2) (N / 16 % 2) (N / 8 % 2) (N / 4 % 2) (N / 2 % 2) (N / 1 % 2) (n / 16777216) o w 0))
  rw [hQ] at hq
  have hu : sp12.has (asg (N / 128) (N / 128 / 128 % 8) (N / 128 / 16384 % 2) (N / 128 / 8192 % 2) (N / 128 / 4096 % 2) (N / 128 / 2048 % 2) (N / 128 / 1024 % 2) (0) (N / 64 % 2) (N / 32 % 2) (N / 16 % 2) (N / 8 % 2) (N / 4 % 2) (N / 2 % 2) (N / 1 % 2) (n / 16777216) o w Q) := by
    refine ⟨?_, by show (decL qn).at _ = budF _; rw [qn_at, hr, hQ]⟩
    simp only [sp12, hasB, Nat.reduceAdd]
    refine ⟨?_, ?_, ?_, ?_, ?_, ?_, ?_, ?_, ?_, ?_, ?_, ?_, ?_, ?_, ?_, ?_, ?_, ?_, ?_, ?_, ?_, ?_, ?_, ?_, ?_, ?_, ?_, ?_, ?_, ?_, ?_, ?_, ?_, ?_, ?_, ?_, ?_, ?_, ?_, ?_, ?_, ?_, ?_, ?_, ?_, ?_, ?_, ?_, ?_, ?_, ?_, ?_, ?_, ?_, ?_, ?_, asg_z⟩ <;> (simp only [asg]; omega)
  have hf : gV (asg (N / 128) (N / 128 / 128 % 8) (N / 128 / 16384 % 2) (N / 128 / 8192 % 2) (N / 128 / 4096 % 2) (N / 128 / 2048 % 2) (N / 128 / 1024 % 2) (0) (N / 64 % 2) (N / 32 % 2) (N / 16 % 2) (N / 8 % 2) (N / 4 % 2) (N / 2 % 2) (N / 1 % 2) (n / 16777216) o w Q) fn12 = .int .u64 n := by
    have h : decL 32317006071311014476559095721659746108077010262892255793849606585491217607189900998599169223083277923393133601342349494264612665457152946438100566675914992823171979664467213404509870449671867808189722373446899607681909596587462631722289429651532617878476303021501891088859353490815140565398377147381796700380795042021676917661388897112814978861333153522188605507597907904225139407409243561172438767030138517541664570641793868023826503469022166935830277536934788782198647336217763348777390708115146676122072058081427896346378382637834367092666867908727414665270883248724166488050279404775931353483467481143437055451367 = ⟨.u64, -80, [4194304, 16384, 1024, 512, 256, 128, 0, 0, 0, 0, 0, 0, 0, 0, 64, 32, 16, 8, 4, 2, 1, 16777216, 0, 2097152, 1048576, 524288, 262144, 131072]⟩ := by kernel_rfl
    unfold fn12
    rw [g_f64, h]
    simp only [Ln.at, dot, asg, Nat.reduceAdd, Int.zero_mul]
    congr 1
    have hx : n = 16777216 * (n / 16777216) + (N - 80) := by omega
    have hA : N = 128 * (N / 128) + N % 128 := by omega
    have hB := digR7 N
    obtain ⟨M, hM⟩ : ∃ M, N / 128 = M := ⟨_, rfl⟩
    rw [hM] at hA ⊢
    have hC := digK M
    clear hN h1 h2 hM h hu hq hr hQ
    generalize M / 32768 = g0 at *
    generalize M / 16384 % 2 = g1 at *
    generalize M / 8192 % 2 = g2 at *
    generalize M / 4096 % 2 = g3 at *
    generalize M / 2048 % 2 = g4 at *
    generalize M / 1024 % 2 = g5 at *
    generalize M / 128 % 8 = g6 at *
    generalize M / 8 % 16 = g7 at *
    generalize M / 4 % 2 = g8 at *
    generalize M / 2 % 2 = g9 at *
    generalize M % 2 = g10 at *
    generalize N / 1 % 2 = g11 at *
    generalize N / 2 % 2 = g12 at *
    generalize N / 4 % 2 = g13 at *
    generalize N / 8 % 2 = g14 at *
    generalize N / 16 % 2 = g15 at *
    generalize N / 32 % 2 = g16 at *
    generalize N / 64 % 2 = g17 at *
    generalize N % 128 = g18 at *
    generalize n / 16777216 = g19 at *
    omega
  exact fin3 bo12 hu hf fo_g fw_g (run12 n o w)
def rn13 : Nat := 837987995621412318769513786098035742230922734081419022001422856253653690247156563780962313099246611169520718524397899431234439936491593347738609475649587
def fn13 : AV := .float .f64 11935289041890992643785786295592768060471016362946090355281177877248908230408270427328780589499976051048596845994959445212361789394235564127757295453322669417443996541813767174720118097598907210907173213249020528533320328350121675666483472110848632710860611512755740639854458178693108611593194111158118497151574337686367189878360294172175096182831923801019982640342466916136428641073471490604518148630083680493128829498823808102087539741797136332789168296616689584599039244371285991263002807
def sp13 : Sp := ⟨[(2, 2), (0, 0), (0, 0), (0, 0), (0, 0), (0, 0), (0, 1), (0, 255), (0, 255), (0, 255), (0, 255), (0, 255), (0, 4096), (0, 0), (0, 0), (0, 1), (0, 1), (0, 1), (0, 1), (0, 1), (0, 1), (0, 1099511627775), (-18014398509481984, 18014398509481983), (0, 0), (0, 0), (0, 0), (0, 0), (0, 0)], fun u => (decL qn).at u = budF ((decL rn13).at u)⟩
theorem bo13 : BudOk sp13 rn13 qn := ⟨by kernel_rfl, by kernel_rfl, fun u h => h⟩
theorem run13 (n o w : Int) : chk3 n o w sp13 rn13 fn13 = true := by kernel_rfl
theorem box13 {n o w : Int} (hn : 0 ≤ n ∧ n < 18446744073709551616) (ho : -9223372036854775808 ≤ o ∧ o ≤ 9223372036854775807) (hw : 0 ≤ w ∧ w < 4294967296) (h1 : 16777216 ≤ 80 + n % 16777216) (h2 : 80 + n % 16777216 < 16777280) :
    EntryOk Tryz.prog 3 ∧ ∃ S2, Con Tryz.prog 3 [.int .u64 n, .int .i64 o, .int .u32 w] S0 (.bool true) S2 := by
  obtain ⟨N, hN⟩ : ∃ N, 80 + n % 16777216 = N := ⟨_, rfl⟩
  rw [hN] at h1 h2
  obtain ⟨Q, hQ⟩ : ∃ Q, budF ((decL rn13).at (asg (N / 256) (N / 256 / 128 % 256) (0) (0) (0) (0) (0) (N / 128 % 2) (N / 64 % 2) (N / 32 % 2) (N / 16 % 2) (N / 8 % 2) (N / 4 % 2) (N / 2 % 2) (N / 1 % 2) (n / 16777216) o w 0)) = Q := ⟨_, rfl⟩
  have hr : (decL rn13).at (asg (N / 256) (N / 256 / 128 % 256) (0) (0) (0) (0) (0) (N / 128 % 2) (N / 64 % 2) (N / 32 % 2) (N / 16 % 2) (N / 8 % 2) (N / 4 % 2) (N / 2 % 2) (N / 1 % 2) (n / 16777216) o w Q) = (decL rn13).at (asg (N / 256) (N / 256 / 128 % 256) (0) (0) (0) (0) (0) (N / 128 % 2) (N / 64 % 2) (N / 32 % 2) (N / 16 % 2) (N / 8 % 2) (N / 4 % 2) (N / 2 % 2) (N / 1 % 2) (n / 16777216) o w 0) := by
    have h : decL rn13 = ⟨.i64, 0, [1048576, 4096, 256, 128, 64, 32]⟩ := by kernel_rfl
    rw [h]
    simp only [Ln.at, dot, asg, Nat.reduceAdd, Int.zero_mul]
  have hq := budF_in ((decL rn13).at (asg (N / 256) (N / 256 / 128 % 256) (0) (0) (0) (0) (0) (N / 128 % 2) (N / 64 % 2) (N / 32 % 2) (N / 16 % 2) (N / 8 % 2) (N / 4 % 2) (N / 2 % 2) (N / 1 % 2) (n / 16777216) o w 0))
  rw [hQ] at hq
  have hu : sp13.has (asg (N / 256) (N / 256 / 128 % 256) (0) (0) (0) (0) (0) (N / 128 % 2) (N / 64 % 2) (N / 32 % 2) (N / 16 % 2) (N / 8 % 2) (N / 4 % 2) (N / 2 % 2) (N / 1 % 2) (n / 16777216) o w Q) := by
    refine ⟨?_, by show (decL qn).at _ = budF _; rw [qn_at, hr, hQ]⟩
    simp only [sp13, hasB, Nat.reduceAdd]
    refine ⟨?_, ?_, ?_, ?_, ?_, ?_, ?_, ?_, ?_, ?_, ?_, ?_, ?_, ?_, ?_, ?_, ?_, ?_, ?_, ?_, ?_, ?_, ?_, ?_, ?_, ?_, ?_, ?_, ?_, ?_, ?_, ?_, ?_, ?_, ?_, ?_, ?_, ?_, ?_, ?_, ?_, ?_, ?_, ?_, ?_, ?_, ?_, ?_, ?_, ?_, ?_, ?_, ?_, ?_, ?_, ?_, asg_z⟩ <;> (simp only [asg]; omega)
  have hf : gV (asg (N / 256) (N / 256 / 128 % 256) (0) (0) (0) (0) (0) (N / 128 % 2) (N / 64 % 2) (N / 32 % 2) (N / 16 % 2) (N / 8 % 2) (N / 4 % 2) (N / 2 % 2) (N / 1 % 2) (n / 16777216) o w Q) fn13 = .int .u64 n := by
    have h : decL 11935289041890992643785786295592768060471016362946090355281177877248908230408270427328780589499976051048596845994959445212361789394235564127757295453322669417443996541813767174720118097598907210907173213249020528533320328350121675666483472110848632710860611512755740639854458178693108611593194111158118497151574337686367189878360294172175096182831923801019982640342466916136428641073471490604518148630083680493128829498823808102087539741797136332789168296616689584599039244371285991263002807 = ⟨.u64, -80, [8388608, 32768, 2048, 1024, 512, 256, 0, 0, 0, 0, 0, 0, 0, 128, 64, 32, 16, 8, 4, 2, 1, 16777216]⟩ := by kernel_rfl
    unfold fn13
    rw [g_f64, h]
    simp only [Ln.at, dot, asg, Nat.reduceAdd, Int.zero_mul]
    congr 1
    have hx : n = 16777216 * (n / 16777216) + (N - 80) := by omega
    have hA : N = 256 * (N / 256) + N % 256 := by omega
    have hB := digR8 N
    obtain ⟨M, hM⟩ : ∃ M, N / 256 = M := ⟨_, rfl⟩
    rw [hM] at hA ⊢
    have hC := digJ M
    clear hN h1 h2 hM h hu hq hr hQ
    generalize M / 32768 = g0 at *
    generalize M / 128 % 256 = g1 at *
    generalize M / 8 % 16 = g2 at *
    generalize M / 4 % 2 = g3 at *
    generalize M / 2 % 2 = g4 at *
    generalize M % 2 = g5 at *
    generalize N / 1 % 2 = g6 at *
    generalize N / 2 % 2 = g7 at *
    generalize N / 4 % 2 = g8 at *
    generalize N / 8 % 2 = g9 at *
    generalize N / 16 % 2 = g10 at *
    generalize N / 32 % 2 = g11 at *
    generalize N / 64 % 2 = g12 at *
    generalize N / 128 % 2 = g13 at *
    generalize N % 256 = g14 at *
    generalize n / 16777216 = g15 at *
    omega
  exact fin3 bo13 hu hf fo_g fw_g (run13 n o w)
def rn14 : Nat := 837987995621412318769513786098035742230922734081419022001422856253653690247156563780962313099246611169520718524397899431234439936491593347738609475649587
def fn14 : AV := .float .f64 11935289041890992643785786295592768060471016362946090355281177877248908230408270427328780589499976051048596845994959445212361789394235564127757295453322669417443996541813767174720118097598907210907173213249020528533320328350121675666483472110848632710860611512755740639854458178693108611593194111158118497151574337686367189878360294172175096182831923801019982640342466916136428641073471490604518148630083680493128829498823808102087539741797136332789168296616689584599039244371285991263002807
def sp14 : Sp := ⟨[(2, 2), (0, 0), (0, 0), (0, 0), (0, 0), (0, 0), (0, 1), (0, 255), (0, 255), (0, 255), (0, 255), (0, 255), (0, 4096), (0, 0), (1, 1), (0, 0), (0, 0), (0, 1), (0, 1), (0, 1), (0, 1), (0, 1099511627775), (-18014398509481984, 18014398509481983), (0, 0), (0, 0), (0, 0), (0, 0), (0, 0)], fun u => (decL qn).at u = budF ((decL rn14).at u)⟩
theorem bo14 : BudOk sp14 rn14 qn := ⟨by kernel_rfl, by kernel_rfl, fun u h => h⟩
theorem run14 (n o w : Int) : chk3 n o w sp14 rn14 fn14 = true := by kernel_rfl
theorem box14 {n o w : Int} (hn : 0 ≤ n ∧ n < 18446744073709551616) (ho : -9223372036854775808 ≤ o ∧ o ≤ 9223372036854775807) (hw : 0 ≤ w ∧ w < 4294967296) (h1 : 16777280 ≤ 80 + n % 16777216) (h2 : 80 + n % 16777216 < 16777296) :
    EntryOk Tryz.prog 3 ∧ ∃ S2, Con Tryz.prog 3 [.int .u64 n, .int .i64 o, .int .u32 w] S0 (.bool true) S2 := by
  obtain ⟨N, hN⟩ : ∃ N, 80 + n % 16777216 = N := ⟨_, rfl⟩
  rw [hN] at h1 h2
  obtain ⟨Q, hQ⟩ : ∃ Q, budF ((decL rn14).at (asg (N / 256) (N / 256 / 128 % 256) (0) (0) (0) (0) (0) (N / 128 % 2) (N / 64 % 2) (N / 32 % 2) (N / 16 % 2) (N / 8 % 2) (N / 4 % 2) (N / 2 % 2) (N / 1 % 2) (n / 16777216) o w 0)) = Q := ⟨_, rfl⟩
  have hr : (decL rn14).at (asg (N / 256) (N / 256 / 128 % 256) (0) (0) (0) (0) (0) (N / 128 % 2) (N / 64 % 2) (N / 32 % 2) (N / 16 % 2) (N / 8 % 2) (N / 4 % 2) (N / 2 % 2) (N / 1 % 2) (n / 16777216) o w Q) = (decL rn14).at (asg (N / 256) (N / 256 / 128 % 256) (0) (0) (0) (0) (0) (N / 128 % 2) (N / 64 % 2) (N / 32 % 2) (N / 16 % 2) (N / 8 % 2) (N / 4 % 2) (N / 2 % 2) (N / 1 % 2) (n / 16777216) o w 0) := by
    have h : decL rn14 = ⟨.i64, 0, [1048576, 4096, 256, 128, 64, 32]⟩ := by kernel_rfl
    rw [h]
    simp only [Ln.at, dot, asg, Nat.reduceAdd, Int.zero_mul]
  have hq := budF_in ((decL rn14).at (asg (N / 256) (N / 256 / 128 % 256) (0) (0) (0) (0) (0) (N / 128 % 2) (N / 64 % 2) (N / 32 % 2) (N / 16 % 2) (N / 8 % 2) (N / 4 % 2) (N / 2 % 2) (N / 1 % 2) (n / 16777216) o w 0))
  rw [hQ] at hq
  have hu : sp14.has (asg (N / 256) (N / 256 / 128 % 256) (0) (0) (0) (0) (0) (N / 128 % 2) (N / 64 % 2) (N / 32 % 2) (N / 16 % 2) (N / 8 % 2) (N / 4 % 2) (N / 2 % 2) (N / 1 % 2) (n / 16777216) o w Q) := by
    refine ⟨?_, by show (decL qn).at _ = budF _; rw [qn_at, hr, hQ]⟩
    simp only [sp14, hasB, Nat.reduceAdd]
    refine ⟨?_, ?_, ?_, ?_, ?_, ?_, ?_, ?_, ?_, ?_, ?_, ?_, ?_, ?_, ?_, ?_, ?_, ?_, ?_, ?_, ?_, ?_, ?_, ?_, ?_, ?_, ?_, ?_, ?_, ?_, ?_, ?_, ?_, ?_, ?_, ?_, ?_, ?_, ?_, ?_, ?_, ?_, ?_, ?_, ?_, ?_, ?_, ?_, ?_, ?_, ?_, ?_, ?_, ?_, ?_, ?_, asg_z⟩ <;> (simp only [asg]; omega)
  have hf : gV (asg (N / 256) (N / 256 / 128 % 256) (0) (0) (0) (0) (0) (N / 128 % 2) (N / 64 % 2) (N / 32 % 2) (N / 16 % 2) (N / 8 % 2) (N / 4 % 2) (N / 2 % 2) (N / 1 % 2) (n / 16777216) o w Q) fn14 = .int .u64 n := by
    have h : decL 11935289041890992643785786295592768060471016362946090355281177877248908230408270427328780589499976051048596845994959445212361789394235564127757295453322669417443996541813767174720118097598907210907173213249020528533320328350121675666483472110848632710860611512755740639854458178693108611593194111158118497151574337686367189878360294172175096182831923801019982640342466916136428641073471490604518148630083680493128829498823808102087539741797136332789168296616689584599039244371285991263002807 = ⟨.u64, -80, [8388608, 32768, 2048, 1024, 512, 256, 0, 0, 0, 0, 0, 0, 0, 128, 64, 32, 16, 8, 4, 2, 1, 16777216]⟩ := by kernel_rfl
    unfold fn14
    rw [g_f64, h]
    simp only [Ln.at, dot, asg, Nat.reduceAdd, Int.zero_mul]
    congr 1
    have hx : n = 16777216 * (n / 16777216) + (N - 80) := by omega
    have hA : N = 256 * (N / 256) + N % 256 := by omega
    have hB := digR8 N
    obtain ⟨M, hM⟩ : ∃ M, N / 256 = M := ⟨_, rfl⟩
    rw [hM] at hA ⊢
    have hC := digJ M
    clear hN h1 h2 hM h hu hq hr hQ
    generalize M / 32768 = g0 at *
    generalize M / 128 % 256 = g1 at *
    generalize M / 8 % 16 = g2 at *
    generalize M / 4 % 2 = g3 at *
    generalize M / 2 % 2 = g4 at *
    generalize M % 2 = g5 at *
    generalize N / 1 % 2 = g6 at *
    generalize N / 2 % 2 = g7 at *
    generalize N / 4 % 2 = g8 at *
    generalize N / 8 % 2 = g9 at *
    generalize N / 16 % 2 = g10 at *
    generalize N / 32 % 2 = g11 at *
    generalize N / 64 % 2 = g12 at *
    generalize N / 128 % 2 = g13 at *
    generalize N % 256 = g14 at *
    generalize n / 16777216 = g15 at *
    omega
  exact fin3 bo14 hu hf fo_g fw_g (run14 n o w)
theorem tmmbr {n o w : Int} (hn : 0 ≤ n ∧ n < 18446744073709551616) (ho : -9223372036854775808 ≤ o ∧ o ≤ 9223372036854775807) (hw : 0 ≤ w ∧ w < 4294967296) :
    EntryOk Tryz.prog 3 ∧ ∃ S2, Con Tryz.prog 3 [.int .u64 n, .int .i64 o, .int .u32 w] S0 (.bool true) S2 := by
  have a : 80 ≤ 80 + n % 16777216 := by omega
  have z : 80 + n % 16777216 < 16777296 := by omega
  by_cases b0 : 80 + n % 16777216 < 128
  · exact box0 hn ho hw a b0
  by_cases b1 : 80 + n % 16777216 < 384
  · exact box1 hn ho hw (by omega) b1
  by_cases b2 : 80 + n % 16777216 < 392
  · exact box2 hn ho hw (by omega) b2
  by_cases b3 : 80 + n % 16777216 < 512
  · exact box3 hn ho hw (by omega) b3
  by_cases b4 : 80 + n % 16777216 < 32768
  · exact box4 hn ho hw (by omega) b4
  by_cases b5 : 80 + n % 16777216 < 131072
  · exact box5 hn ho hw (by omega) b5
  by_cases b6 : 80 + n % 16777216 < 262144
  · exact box6 hn ho hw (by omega) b6
  by_cases b7 : 80 + n % 16777216 < 524288
  · exact box7 hn ho hw (by omega) b7
  by_cases b8 : 80 + n % 16777216 < 1048576
  · exact box8 hn ho hw (by omega) b8
  by_cases b9 : 80 + n % 16777216 < 2097152
  · exact box9 hn ho hw (by omega) b9
  by_cases b10 : 80 + n % 16777216 < 4194304
  · exact box10 hn ho hw (by omega) b10
  by_cases b11 : 80 + n % 16777216 < 8388608
  · exact box11 hn ho hw (by omega) b11
  by_cases b12 : 80 + n % 16777216 < 16777216
  · exact box12 hn ho hw (by omega) b12
  by_cases b13 : 80 + n % 16777216 < 16777280
  · exact box13 hn ho hw (by omega) b13
  exact box14 hn ho hw (by omega) (by omega)
def s3v (l : List AV) : Option AV := match l with
  | [.int .u64 n, .int .i64 o, .int .u32 w] => if (0 ≤ n ∧ n < 18446744073709551616) ∧ (-9223372036854775808 ≤ o ∧ o ≤ 9223372036854775807) ∧ (0 ≤ w ∧ w < 4294967296) then some (.bool true) else none
  | _ => none
def XV : Nat → List AV → Option AV := addX X0 3 s3v
theorem okV : XOk Tryz.prog XV := by
  intro f args v h
  unfold XV addX at h
  by_cases hf : f = 3
  · rw [if_pos hf] at h
    subst hf
    unfold s3v at h
    split at h
    · split at h
      · rename_i n o w hc
        cases h
        obtain ⟨h1, S2, h2⟩ := tmmbr hc.1 hc.2.1 hc.2.2
        exact ⟨h1, con_pure rfl rfl h2⟩
      · cases h
    · cases h
  · rw [if_neg hf] at h; cases h
theorem lawV {n o w : Int} (hn : (Lit.int .u64 n).wf = true) (ho : (Lit.int .i64 o).wf = true) (hw : (Lit.int .u32 w).wf = true) : ∃ S', evF XV AP (0 + 1) 3 [.int .u64 n, .int .i64 o, .int .u32 w] S0 = some (.bool true, S') := by
  refine ⟨S0, ?_⟩
  have h1 := wf_u64 hn
  have h2 := wf_i64 ho
  have h3 : 0 ≤ w ∧ w ≤ 4294967295 := by simpa [Lit.wf, IntKind.min, IntKind.max, IntKind.signed, IntKind.bits] using hw
  have hX : XV 3 [.int .u64 n, .int .i64 o, .int .u32 w] = some (.bool true) := by
    unfold XV addX
    rw [if_pos rfl]
    unfold s3v
    dsimp only
    rw [if_pos ⟨⟨by omega, by omega⟩, ⟨by omega, by omega⟩, by omega, by omega⟩]
  unfold evF
  rw [hX]
end Go.Proofs.YtajoogahcgbohaaGreatA
