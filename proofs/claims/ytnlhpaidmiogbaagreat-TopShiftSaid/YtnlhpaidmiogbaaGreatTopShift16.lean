/- Joined texts. What each part proves stands ahead of it; no condition. -/
import Derived.Test.YtnlhpaidmiogbaaGreatTopShift10
import Derived.Test.YtnlhpaidmiogbaaGreatTopShift11
import Derived.Test.YtnlhpaidmiogbaaGreatTopShift12
import Derived.Test.YtnlhpaidmiogbaaGreatTopShift13
import Derived.Test.YtnlhpaidmiogbaaGreatTopShift14
import Derived.Test.YtnlhpaidmiogbaaGreatTopShift15

/- TopShift: the law. -/
namespace Go.Proofs.YtnlhpaidmiogbaaGreat
open Go.Lr
set_option linter.unusedVariables false
set_option maxRecDepth 100000
theorem jsp {dl:Int} (h4:¬dl<0) (h5:¬dl>5) {lat lon:Int} (hn:SmH lat) (he:SmH lon) (s:Asg):ToP Tryz.prog 93 (c2 (c2 (c2 zhC))) (j8 s (zlA lat lon dl)) .ret zlF:=by
 have hd:dl=0∨dl=1∨dl=2∨dl=3∨dl=4∨dl=5:=by omega
 rcases hd with rfl | rfl | rfl | rfl | rfl | rfl
 ·rw [jEJ s];exact (jrs hn he hn.bn he.be s).mono jEK
 ·rw [jEO s];exact (jrE hn he hn.bn he.be s).mono jEP
 ·rw [jET s];exact (jrQ hn he hn.bn he.be s).mono jEU
 ·rw [jEY s];exact (jr2 hn he hn.bn he.be s).mono jEZ
 ·rw [jE3 s];exact (jse hn he hn.bn he.be s).mono jE4
 ·rw [jE8 s];exact (jso hn he hn.bn he.be s).mono jE9
theorem jsq (s:Asg) {lat lon dl:Int}:ToR Tryz.prog 93 0 zhC (j8 s (zlA lat lon dl)) .ret zlF:=by
 refine ToR.seq (by kernel_rfl) (ToR.of_ToP (jEE s) (by kernel_rfl)) ?_
 rintro x ⟨s,rfl⟩
 refine ToR.seq (by kernel_rfl) (ToR.of_ToP (jEF s) (by kernel_rfl)) ?_
 rintro x ⟨s,rfl⟩
 by_cases h0:lat < -100000
 ·exact ToR.seq_out (by kernel_rfl) (by simp) ((ToR.of_ToP (jzr h0 s) (by kernel_rfl)).mono (by rintro x ⟨s,rfl⟩;exact ⟨s,0,rfl⟩))
 by_cases h1:lat>100000
 ·exact ToR.seq_out (by kernel_rfl) (by simp) ((ToR.of_ToP (jzs h0 h1 s) (by kernel_rfl)).mono (by rintro x ⟨s,rfl⟩;exact ⟨s,0,rfl⟩))
 by_cases h2:lon < -100000
 ·exact ToR.seq_out (by kernel_rfl) (by simp) ((ToR.of_ToP (jzt h0 h1 h2 s) (by kernel_rfl)).mono (by rintro x ⟨s,rfl⟩;exact ⟨s,0,rfl⟩))
 by_cases h3:lon>100000
 ·exact ToR.seq_out (by kernel_rfl) (by simp) ((ToR.of_ToP (jzu h0 h1 h2 h3 s) (by kernel_rfl)).mono (by rintro x ⟨s,rfl⟩;exact ⟨s,0,rfl⟩))
 by_cases h4:dl<0
 ·exact ToR.seq_out (by kernel_rfl) (by simp) ((ToR.of_ToP (jzv h0 h1 h2 h3 h4 s) (by kernel_rfl)).mono (by rintro x ⟨s,rfl⟩;exact ⟨s,0,rfl⟩))
 by_cases h5:dl>5
 ·exact ToR.seq_out (by kernel_rfl) (by simp) ((ToR.of_ToP (jzw h0 h1 h2 h3 h4 h5 s) (by kernel_rfl)).mono (by rintro x ⟨s,rfl⟩;exact ⟨s,0,rfl⟩))
 refine ToR.seq (by kernel_rfl) (ToR.of_ToP (jzx h0 h1 h2 h3 h4 h5 s) (by kernel_rfl)) ?_
 rintro x ⟨s,rfl⟩
 exact ToR.of_ToP (jsp h4 h5 ⟨by omega,by omega⟩ ⟨by omega,by omega⟩ s) (by kernel_rfl)
def jFa:Asg:=⟨fun _ _=>0,fun _ _=>false,fun _ _=>0,fun _ _=>false⟩
theorem lawTopShift (lat lon dl:Int) (w:Go.World):Go.Calls Tryz.prog 7 ([I lat,I lon,I dl].map (LV.den E0)).toArray w fun e w'=>e = .returned (.bool true)∧Go.RowKit.Below w.heap.size w w':=by
 have h:ToR Tryz.prog 93 0 zhC ⟨kC 0 [I lat,I lon,I dl],[],0⟩ .ret zlF:=jsq (lat:=lat) (lon:=lon) (dl:=dl) jFa
 refine jln (args:=[I lat,I lon,I dl]) (m:=[]) (nb:=0) (N:=0) (v:= .v (.one (.bool true))) Tryz.func7 (by kernel_rfl) (Nat.le_of_ble_eq_true (by kernel_rfl)) (Nat.le_of_ble_eq_true (by kernel_rfl)) ?_ rfl ?_ ?_ ?_ h ?_ rfl E0 w ⟨fun i b h=>by simp [getM] at h,fun i j h=>by simp [getM] at h⟩
 ·intro u hu;simp at hu;rcases hu with rfl | rfl | rfl <;> rfl
 ·exact fun i b h=>by simp [getM] at h
 ·exact fun i b h=>by simp [getM] at h
 ·exact fun i b h=>by simp [getM] at h
 ·rintro x ⟨s,j,rfl⟩
  exact ⟨fun dead=>by kernel_rfl,fun i b h=>by simp [getM] at h⟩
end Go.Proofs.YtnlhpaidmiogbaaGreat
