/- Top: a limit that is asked for holds so long: the first part, the numbers. -/
import Derived.Test.YtajoogahcgbohaaGreatSmM
set_option linter.unusedVariables false
set_option linter.unusedSimpArgs false
set_option maxRecDepth 1000000
namespace Go.Proofs.YtajoogahcgbohaaGreatA
open Go.RowKit

noncomputable def cR : Cal := evFK XF AP 300
noncomputable def R3 (n o w : Int) : RC := evCK cR 300 (preC 3 af3.body) (setArgs [.int .u64 n, .int .i64 o, .int .u32 w] 0 .lf) S0
def c3 : AC := sufC 3 af3.body
def qn : Nat := 2678771517965668302377869645851654534320375199196030531358352894189007463091068969144934734081391083235897033436462656255106589840163845217705587948989999174117326169464335730302670209414977589323570480221195306238799571659954737658588912399746705069716126890210786967520633792405575327566461520576619
def fo : AV := .float .f64 14090702233696445667397525059805551236527775428988108974881217110735448375931100503918011174733017658669528503210091430227858297500332772562768497274057116016880202878330100182492173655127625175510711989114259617667320397237207990378744431937586505094060533197933204945684188530508741764882785881898638403788687795868413358145129871201438121742656591349446431614338931025654904500108472163007320706156243646336752162978677566286556378717096444969330815012211507682112098593444479120137854808273715242005853896891
def fw : AV := .float .f64 2269007733883335972292848442220634925016802651789663495583432106332809064831055917595461727991547696319328680558625341573887644131581073831960510686854389311087173683642902973532531925892417648224406749038813196101713615854732176979741440592920621217155149641359520612280671666278
theorem n3 (n o w : Int) : (nrmR (R3 n o w) && (nfTr AV.nf (tmR (R3 n o w)) && nfTr nfA (stR (R3 n o w)).objs)) = true := by kernel_rfl
theorem s3 (n o w : Int) : (((tmR (R3 n o w)).set 0 (.int .u64 n)).set 1 (.int .i64 o)).set 2 (.int .u32 w) = tmR (R3 n o w) := by kernel_rfl
def T3 (T : Tm) (fn : AV) : Tm := ((T.set 0 fn).set 1 fo).set 2 fw
noncomputable def chk3 (n o w : Int) (s : Sp) (rn : Nat) (fn : AV) : Bool := rootChk af3.results (.bool true) (evCS s (evFS s (Xs rn qn s) nX AP 300) 300 c3 (T3 (tmR (R3 n o w)) fn) (stR (R3 n o w)))
theorem fin3 {n o w : Int} {s : Sp} {rn : Nat} {fn : AV} (hb : BudOk s rn qn) {u : Asg} (hu : s.has u) (h1 : gV u fn = .int .u64 n) (h2 : gV u fo = .int .i64 o) (h3 : gV u fw = .int .u32 w) (hr : chk3 n o w s rn fn = true) :
    EntryOk Tryz.prog 3 ∧ ∃ S2, Con Tryz.prog 3 [.int .u64 n, .int .i64 o, .int .u32 w] S0 (.bool true) S2 := by
  have hn := n3 n o w
  rw [Bool.and_eq_true, Bool.and_eq_true] at hn
  have h4 := seg hn.1
  refine con_sym hb hu (af := af3) rfl rfl (c := c3) (T1 := T3 (tmR (R3 n o w)) fn) (S1 := stR (R3 n o w)) ?_ hr
  rw [nfS_g _ hn.2.2]
  unfold T3
  rw [gT_set, gT_set, gT_set, nfT_g _ hn.2.1, h1, h2, h3, s3]
  exact ev_split _ _ 3 _ _ _ _ _ h4
/-- The numbers of a rate N, of M, its first bits; of over, of an owner. -/
def asg (M m1 k14 k13 k12 k11 k10 r7 r6 r5 r4 r3 r2 r1 r0 x o w Q : Int) : Asg := fun j => match j with
  | 0 => M / 32768 | 1 => m1 | 2 => M / 8 % 16 | 3 => M / 4 % 2 | 4 => M / 2 % 2 | 5 => M % 2
  | 6 => o % 512 / 256 | 7 => o % 256
  | 8 => w / 16777216 | 9 => w / 65536 % 256 | 10 => w / 256 % 256 | 11 => w % 256
  | 12 => Q
  | 13 => r7 | 14 => r6 | 15 => r5 | 16 => r4 | 17 => r3 | 18 => r2 | 19 => r1 | 20 => r0
  | 21 => x | 22 => o / 512
  | 23 => k14 | 24 => k13 | 25 => k12 | 26 => k11 | 27 => k10
  | _ => 0
theorem asg_z {M m1 k14 k13 k12 k11 k10 r7 r6 r5 r4 r3 r2 r1 r0 x o w Q : Int} : ∀ j, 28 ≤ j → asg M m1 k14 k13 k12 k11 k10 r7 r6 r5 r4 r3 r2 r1 r0 x o w Q j = 0 := by
  intro j hj
  unfold asg
  split <;> first | rfl | omega
theorem fo_g {M m1 k14 k13 k12 k11 k10 r7 r6 r5 r4 r3 r2 r1 r0 x o w Q : Int} : gV (asg M m1 k14 k13 k12 k11 k10 r7 r6 r5 r4 r3 r2 r1 r0 x o w Q) fo = .int .i64 o := by
  have h : decL 14090702233696445667397525059805551236527775428988108974881217110735448375931100503918011174733017658669528503210091430227858297500332772562768497274057116016880202878330100182492173655127625175510711989114259617667320397237207990378744431937586505094060533197933204945684188530508741764882785881898638403788687795868413358145129871201438121742656591349446431614338931025654904500108472163007320706156243646336752162978677566286556378717096444969330815012211507682112098593444479120137854808273715242005853896891 = ⟨.i64, 0, [0, 0, 0, 0, 0, 0, 256, 1, 0, 0, 0, 0, 0, 0, 0, 0, 0, 0, 0, 0, 0, 0, 512]⟩ := by kernel_rfl
  unfold fo
  rw [g_f64, h]
  simp only [Ln.at, dot, asg, Nat.reduceAdd]
  congr 1; omega
theorem fw_g {M m1 k14 k13 k12 k11 k10 r7 r6 r5 r4 r3 r2 r1 r0 x o w Q : Int} : gV (asg M m1 k14 k13 k12 k11 k10 r7 r6 r5 r4 r3 r2 r1 r0 x o w Q) fw = .int .u32 w := by
  have h : decL 2269007733883335972292848442220634925016802651789663495583432106332809064831055917595461727991547696319328680558625341573887644131581073831960510686854389311087173683642902973532531925892417648224406749038813196101713615854732176979741440592920621217155149641359520612280671666278 = ⟨.u32, 0, [0, 0, 0, 0, 0, 0, 0, 0, 16777216, 65536, 256, 1]⟩ := by kernel_rfl
  unfold fw
  rw [g_f64, h]
  simp only [Ln.at, dot, asg, Nat.reduceAdd]
  congr 1; omega
theorem qn_at {M m1 k14 k13 k12 k11 k10 r7 r6 r5 r4 r3 r2 r1 r0 x o w Q : Int} : (decL qn).at (asg M m1 k14 k13 k12 k11 k10 r7 r6 r5 r4 r3 r2 r1 r0 x o w Q) = Q := by
  have h : decL qn = ⟨.i64, 0, [0, 0, 0, 0, 0, 0, 0, 0, 0, 0, 0, 0, 1]⟩ := by kernel_rfl
  rw [h]
  simp only [Ln.at, dot, asg, Nat.reduceAdd]
  omega
theorem digK (M : Int) : M = 32768 * (M / 32768) + 16384 * (M / 16384 % 2) + 8192 * (M / 8192 % 2) + 4096 * (M / 4096 % 2) + 2048 * (M / 2048 % 2) + 1024 * (M / 1024 % 2) + 128 * (M / 128 % 8) + 8 * (M / 8 % 16) + 4 * (M / 4 % 2) + 2 * (M / 2 % 2) + M % 2 := by
  have h0 : M = 2 * (M / 2) + M % 2 := by omega
  have h1 : M / 2 = 2 * (M / 4) + M / 2 % 2 := by omega
  have h2 : M / 4 = 2 * (M / 8) + M / 4 % 2 := by omega
  have h3 : M / 8 = 16 * (M / 128) + M / 8 % 16 := by omega
  have h4 : M / 128 = 8 * (M / 1024) + M / 128 % 8 := by omega
  have h5 : M / 1024 = 2 * (M / 2048) + M / 1024 % 2 := by omega
  have h6 : M / 2048 = 2 * (M / 4096) + M / 2048 % 2 := by omega
  have h7 : M / 4096 = 2 * (M / 8192) + M / 4096 % 2 := by omega
  have h8 : M / 8192 = 2 * (M / 16384) + M / 8192 % 2 := by omega
  have h9 : M / 16384 = 2 * (M / 32768) + M / 16384 % 2 := by omega
  generalize M % 2 = e0 at *
  generalize M / 2 % 2 = e1 at *
  generalize M / 4 % 2 = e2 at *
  generalize M / 8 % 16 = e3 at *
  generalize M / 128 % 8 = e4 at *
  generalize M / 1024 % 2 = e5 at *
  generalize M / 2048 % 2 = e6 at *
  generalize M / 4096 % 2 = e7 at *
  generalize M / 8192 % 2 = e8 at *
  generalize M / 16384 % 2 = e9 at *
  generalize M / 32768 = d32768 at *
  generalize M / 16384 = d16384 at *
  generalize M / 8192 = d8192 at *
  generalize M / 4096 = d4096 at *
  generalize M / 2048 = d2048 at *
  generalize M / 1024 = d1024 at *
  generalize M / 128 = d128 at *
  generalize M / 8 = d8 at *
  generalize M / 4 = d4 at *
  generalize M / 2 = d2 at *
  omega
theorem digJ (M : Int) : M = 32768 * (M / 32768) + 128 * (M / 128 % 256) + 8 * (M / 8 % 16) + 4 * (M / 4 % 2) + 2 * (M / 2 % 2) + M % 2 := by
  have h0 : M = 2 * (M / 2) + M % 2 := by omega
  have h1 : M / 2 = 2 * (M / 4) + M / 2 % 2 := by omega
  have h2 : M / 4 = 2 * (M / 8) + M / 4 % 2 := by omega
  have h3 : M / 8 = 16 * (M / 128) + M / 8 % 16 := by omega
  have h4 : M / 128 = 256 * (M / 32768) + M / 128 % 256 := by omega
  generalize M % 2 = e0 at *
  generalize M / 2 % 2 = e1 at *
  generalize M / 4 % 2 = e2 at *
  generalize M / 8 % 16 = e3 at *
  generalize M / 128 % 256 = e4 at *
  generalize M / 32768 = d32768 at *
  generalize M / 128 = d128 at *
  generalize M / 8 = d8 at *
  generalize M / 4 = d4 at *
  generalize M / 2 = d2 at *
  omega
theorem digR1 (N : Int) : N % 2 = 1 * (N / 1 % 2) := by
  have hz : N = 2 * (N / 2) + N % 2 := by omega
  rw [Int.ediv_one]
  have h0 : N = 2 * (N / 2) + N % 2 := by omega
  generalize N % 2 = e0 at *
  generalize N / 2 = d2 at *
  omega
theorem digR2 (N : Int) : N % 4 = 1 * (N / 1 % 2) + 2 * (N / 2 % 2) := by
  have hz : N = 4 * (N / 4) + N % 4 := by omega
  rw [Int.ediv_one]
  have h0 : N = 2 * (N / 2) + N % 2 := by omega
  have h1 : N / 2 = 2 * (N / 4) + N / 2 % 2 := by omega
  generalize N % 4 = z at *
  generalize N % 2 = e0 at *
  generalize N / 2 % 2 = e1 at *
  generalize N / 4 = d4 at *
  generalize N / 2 = d2 at *
  omega
theorem digR3 (N : Int) : N % 8 = 1 * (N / 1 % 2) + 2 * (N / 2 % 2) + 4 * (N / 4 % 2) := by
  have hz : N = 8 * (N / 8) + N % 8 := by omega
  rw [Int.ediv_one]
  have h0 : N = 2 * (N / 2) + N % 2 := by omega
  have h1 : N / 2 = 2 * (N / 4) + N / 2 % 2 := by omega
  have h2 : N / 4 = 2 * (N / 8) + N / 4 % 2 := by omega
  generalize N % 8 = z at *
  generalize N % 2 = e0 at *
  generalize N / 2 % 2 = e1 at *
  generalize N / 4 % 2 = e2 at *
  generalize N / 8 = d8 at *
  generalize N / 4 = d4 at *
  generalize N / 2 = d2 at *
  omega
theorem digR4 (N : Int) : N % 16 = 1 * (N / 1 % 2) + 2 * (N / 2 % 2) + 4 * (N / 4 % 2) + 8 * (N / 8 % 2) := by
  have hz : N = 16 * (N / 16) + N % 16 := by omega
  rw [Int.ediv_one]
  have h0 : N = 2 * (N / 2) + N % 2 := by omega
  have h1 : N / 2 = 2 * (N / 4) + N / 2 % 2 := by omega
  have h2 : N / 4 = 2 * (N / 8) + N / 4 % 2 := by omega
  have h3 : N / 8 = 2 * (N / 16) + N / 8 % 2 := by omega
  generalize N % 16 = z at *
  generalize N % 2 = e0 at *
  generalize N / 2 % 2 = e1 at *
  generalize N / 4 % 2 = e2 at *
  generalize N / 8 % 2 = e3 at *
  generalize N / 16 = d16 at *
  generalize N / 8 = d8 at *
  generalize N / 4 = d4 at *
  generalize N / 2 = d2 at *
  omega
theorem digR5 (N : Int) : N % 32 = 1 * (N / 1 % 2) + 2 * (N / 2 % 2) + 4 * (N / 4 % 2) + 8 * (N / 8 % 2) + 16 * (N / 16 % 2) := by
  have hz : N = 32 * (N / 32) + N % 32 := by omega
  rw [Int.ediv_one]
  have h0 : N = 2 * (N / 2) + N % 2 := by omega
  have h1 : N / 2 = 2 * (N / 4) + N / 2 % 2 := by omega
  have h2 : N / 4 = 2 * (N / 8) + N / 4 % 2 := by omega
  have h3 : N / 8 = 2 * (N / 16) + N / 8 % 2 := by omega
  have h4 : N / 16 = 2 * (N / 32) + N / 16 % 2 := by omega
  generalize N % 32 = z at *
  generalize N % 2 = e0 at *
  generalize N / 2 % 2 = e1 at *
  generalize N / 4 % 2 = e2 at *
  generalize N / 8 % 2 = e3 at *
  generalize N / 16 % 2 = e4 at *
  generalize N / 32 = d32 at *
  generalize N / 16 = d16 at *
  generalize N / 8 = d8 at *
  generalize N / 4 = d4 at *
  generalize N / 2 = d2 at *
  omega
theorem digR6 (N : Int) : N % 64 = 1 * (N / 1 % 2) + 2 * (N / 2 % 2) + 4 * (N / 4 % 2) + 8 * (N / 8 % 2) + 16 * (N / 16 % 2) + 32 * (N / 32 % 2) := by
  have hz : N = 64 * (N / 64) + N % 64 := by omega
  rw [Int.ediv_one]
  have h0 : N = 2 * (N / 2) + N % 2 := by omega
  have h1 : N / 2 = 2 * (N / 4) + N / 2 % 2 := by omega
  have h2 : N / 4 = 2 * (N / 8) + N / 4 % 2 := by omega
  have h3 : N / 8 = 2 * (N / 16) + N / 8 % 2 := by omega
  have h4 : N / 16 = 2 * (N / 32) + N / 16 % 2 := by omega
  have h5 : N / 32 = 2 * (N / 64) + N / 32 % 2 := by omega
  generalize N % 64 = z at *
  generalize N % 2 = e0 at *
  generalize N / 2 % 2 = e1 at *
  generalize N / 4 % 2 = e2 at *
  generalize N / 8 % 2 = e3 at *
  generalize N / 16 % 2 = e4 at *
  generalize N / 32 % 2 = e5 at *
  generalize N / 64 = d64 at *
  generalize N / 32 = d32 at *
  generalize N / 16 = d16 at *
  generalize N / 8 = d8 at *
  generalize N / 4 = d4 at *
  generalize N / 2 = d2 at *
  omega
theorem digR7 (N : Int) : N % 128 = 1 * (N / 1 % 2) + 2 * (N / 2 % 2) + 4 * (N / 4 % 2) + 8 * (N / 8 % 2) + 16 * (N / 16 % 2) + 32 * (N / 32 % 2) + 64 * (N / 64 % 2) := by
  have hz : N = 128 * (N / 128) + N % 128 := by omega
  rw [Int.ediv_one]
  have h0 : N = 2 * (N / 2) + N % 2 := by omega
  have h1 : N / 2 = 2 * (N / 4) + N / 2 % 2 := by omega
  have h2 : N / 4 = 2 * (N / 8) + N / 4 % 2 := by omega
  have h3 : N / 8 = 2 * (N / 16) + N / 8 % 2 := by omega
  have h4 : N / 16 = 2 * (N / 32) + N / 16 % 2 := by omega
  have h5 : N / 32 = 2 * (N / 64) + N / 32 % 2 := by omega
  have h6 : N / 64 = 2 * (N / 128) + N / 64 % 2 := by omega
  generalize N % 128 = z at *
  generalize N % 2 = e0 at *
  generalize N / 2 % 2 = e1 at *
  generalize N / 4 % 2 = e2 at *
  generalize N / 8 % 2 = e3 at *
  generalize N / 16 % 2 = e4 at *
  generalize N / 32 % 2 = e5 at *
  generalize N / 64 % 2 = e6 at *
  generalize N / 128 = d128 at *
  generalize N / 64 = d64 at *
  generalize N / 32 = d32 at *
  generalize N / 16 = d16 at *
  generalize N / 8 = d8 at *
  generalize N / 4 = d4 at *
  generalize N / 2 = d2 at *
  omega
theorem digR8 (N : Int) : N % 256 = 1 * (N / 1 % 2) + 2 * (N / 2 % 2) + 4 * (N / 4 % 2) + 8 * (N / 8 % 2) + 16 * (N / 16 % 2) + 32 * (N / 32 % 2) + 64 * (N / 64 % 2) + 128 * (N / 128 % 2) := by
  have hz : N = 256 * (N / 256) + N % 256 := by omega
  rw [Int.ediv_one]
  have h0 : N = 2 * (N / 2) + N % 2 := by omega
  have h1 : N / 2 = 2 * (N / 4) + N / 2 % 2 := by omega
  have h2 : N / 4 = 2 * (N / 8) + N / 4 % 2 := by omega
  have h3 : N / 8 = 2 * (N / 16) + N / 8 % 2 := by omega
  have h4 : N / 16 = 2 * (N / 32) + N / 16 % 2 := by omega
  have h5 : N / 32 = 2 * (N / 64) + N / 32 % 2 := by omega
  have h6 : N / 64 = 2 * (N / 128) + N / 64 % 2 := by omega
  have h7 : N / 128 = 2 * (N / 256) + N / 128 % 2 := by omega
  generalize N % 256 = z at *
  generalize N % 2 = e0 at *
  generalize N / 2 % 2 = e1 at *
  generalize N / 4 % 2 = e2 at *
  generalize N / 8 % 2 = e3 at *
  generalize N / 16 % 2 = e4 at *
  generalize N / 32 % 2 = e5 at *
  generalize N / 64 % 2 = e6 at *
  generalize N / 128 % 2 = e7 at *
  generalize N / 256 = d256 at *
  generalize N / 128 = d128 at *
  generalize N / 64 = d64 at *
  generalize N / 32 = d32 at *
  generalize N / 16 = d16 at *
  generalize N / 8 = d8 at *
  generalize N / 4 = d4 at *
  generalize N / 2 = d2 at *
  omega
end Go.Proofs.YtajoogahcgbohaaGreatA
