/- Strings as lists of bytes: sizes, cuts, joins, single bytes. -/
import Derived.Test.YtpjfhdbkkomogaaDoorWWords
import Derived.Laws.Strings
import Derived.Laws.BytesArg
namespace Go.Proofs.YtpjfhdbkkomogaaDoor.Mb
open Go.RowKit Go.Proofs.YtpjfhdbkkomogaaDoorW.PrintWords

/-- The string of some bytes. -/
def B (l : List UInt8) : ByteArray := ⟨l.toArray⟩
theorem B_data (s : ByteArray) : B s.data.toList = s := rfl
theorem data_B (l : List UInt8) : (B l).data.toList = l := rfl
theorem B_inj {l m : List UInt8} (h : B l = B m) : l = m := by rw [← data_B l, h, data_B]
theorem ext_data {s t : ByteArray} (h : s.data.toList = t.data.toList) : s = t := by rw [← B_data s, h, B_data]
theorem size_B (l : List UInt8) : (B l).size = l.length := rfl
theorem append_B (l m : List UInt8) : B l ++ B m = B (l ++ m) := ext_data (by rw [ByteArray.data_append, Array.toList_append]; rfl)
theorem extract_B (l : List UInt8) (i j : Nat) : (B l).extract i j = B ((l.drop i).take (j - i)) := by
  apply ext_data
  rw [ByteArray.data_extract, Array.toList_extract, List.extract_eq_take_drop]
  rfl
theorem tail_B (l : List UInt8) (i : Nat) : (B l).extract i (B l).size = B (l.drop i) := by
  rw [extract_B, size_B, List.take_of_length_le (by simp)]
theorem toList_B (l : List UInt8) : (B l).toList = l := by rw [ByteArray.toList_eq]; rfl
theorem bt_B (l : List UInt8) (i : Nat) (h : i < l.length) : bt (B l) i = (l[i].toNat : Int) := by
  unfold bt
  have h' : (i : Int).toNat < (B l).size := by rw [size_B]; simpa using h
  rw [dif_pos h']
  rfl
theorem bt_cons (c : UInt8) (l : List UInt8) : bt (B (c :: l)) 0 = (c.toNat : Int) := bt_B (c :: l) 0 (by simp)
theorem bt_cons2 (c d : UInt8) (l : List UInt8) : bt (B (c :: d :: l)) 1 = (d.toNat : Int) := bt_B (c :: d :: l) 1 (by simp)
/-- Bytes as numbers. -/
def N (l : List UInt8) : List Int := l.map fun c => (c.toNat : Int)
theorem str_N (l : List UInt8) : strOfNums (N l) = B l := by
  unfold strOfNums B N
  congr 2
  rw [List.map_map]
  conv => rhs; rw [← List.map_id l]
  apply List.map_congr_left
  intro c _
  simp
theorem N_append (l m : List UInt8) : N l ++ N m = N (l ++ m) := by simp [N]
theorem N_length (l : List UInt8) : (N l).length = l.length := by simp [N]
theorem bytesOf_B (l : List UInt8) : bytesOf (B l) = N l := rfl
theorem byte_ne {c d : UInt8} : (c.toNat : Int) = (d.toNat : Int) ↔ c = d :=
  ⟨fun h => UInt8.toNat_inj.1 (by omega), fun h => by rw [h]⟩
end Go.Proofs.YtpjfhdbkkomogaaDoor.Mb
