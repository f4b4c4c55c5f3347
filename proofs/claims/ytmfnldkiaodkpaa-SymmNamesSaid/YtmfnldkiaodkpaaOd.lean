/- What functions of the program come to: parts of the walk (Od). -/
import Derived.Test.YtmfnldkiaodkpaaPi
import Derived.Test.YtmfnldkiaodkpaaOc
import Derived.KernelRfl
import Derived.Test.YtmfnldkiaodkpaaProg
set_option linter.unusedSimpArgs false
set_option linter.unusedVariables false
namespace Go.Proofs.Ytmfnldkiaodkpaa.Vm
open Go Go.Proofs Go.Proofs.Ytmfnldkiaodkpaa
end Go.Proofs.Ytmfnldkiaodkpaa.Vm
namespace Go.Proofs.Ytmfnldkiaodkpaa.W
open Go Go.Proofs.Ytmfnldkiaodkpaa.Vm
/-- The number r of a key. -/
def tagR (k : List Int) : Int := n17 (fun i => [bAnd IntKind.u8 (k.getD 0 0) 255, bAnd IntKind.u8 (k.getD 1 0) 255, bAnd IntKind.u8 (k.getD 2 0) 255, bAnd IntKind.u8 (k.getD 3 0) 15, bAnd IntKind.u8 (k.getD 4 0) 252, bAnd IntKind.u8 (k.getD 5 0) 255, bAnd IntKind.u8 (k.getD 6 0) 255, bAnd IntKind.u8 (k.getD 7 0) 15, bAnd IntKind.u8 (k.getD 8 0) 252, bAnd IntKind.u8 (k.getD 9 0) 255, bAnd IntKind.u8 (k.getD 10 0) 255, bAnd IntKind.u8 (k.getD 11 0) 15, bAnd IntKind.u8 (k.getD 12 0) 252, bAnd IntKind.u8 (k.getD 13 0) 255, bAnd IntKind.u8 (k.getD 14 0) 255, bAnd IntKind.u8 (k.getD 15 0) 15, 0].getD i 0) % 1361129467683753853853498429727072845824
/-- The tag's number: the text's blocks, reckoned with r, and s. -/
def tagN (k t : List Int) : Int := evalF t (tagR k) t.length (t.length / 16 + 1) t.length 0 % p130 + num (k.drop 16)
def tag (k t : List Int) : List Int := le 16 (tagN k t)
end Go.Proofs.Ytmfnldkiaodkpaa.W
namespace Go.Proofs.Ytmfnldkiaodkpaa.Vm
open Go Go.Proofs Go.Proofs.Ytmfnldkiaodkpaa
end Go.Proofs.Ytmfnldkiaodkpaa.Vm
namespace Go.Proofs.Ytmfnldkiaodkpaa.W
open Go Go.Proofs.Ytmfnldkiaodkpaa.Vm
def nonce (n : Int) : List Int := [0, 0, 0, 0, n % 256, n / 256 % 256, n / 65536 % 256, n / 16777216 % 256, n / 4294967296 % 256, n / 1099511627776 % 256, n / 281474976710656 % 256, n / 72057594037927936 % 256]
theorem nonce_len {n : Int} : (nonce n).length = 12 := rfl
def once (k nn : List Int) : List Int := List.take 32 (block k 0 nn)
theorem once_len {k nn : List Int} : (once k nn).length = 32 := rfl
def zs (n : Nat) : List Int := List.replicate ((16 - n % 16) % 16) 0
/-- What is told to the tag of a box. -/
def boxed (ad x : List Int) : List Int := ad ++ zs ad.length ++ x ++ zs x.length ++ p8 ad.length ++ p8 x.length
def boxTag (k nn ad x : List Int) : List Int := tag (once k nn) (boxed ad x)
def box (k nn ad t : List Int) : List Int := apply k 1 nn t ++ boxTag k nn ad (apply k 1 nn t)
theorem tag_len {k t : List Int} : (tag k t).length = 16 := le_len
theorem boxTag_len {k nn ad x : List Int} : (boxTag k nn ad x).length = 16 := le_len
theorem box_len {k nn ad t : List Int} : (box k nn ad t).length = t.length + 16 := by simp [box, apply_len, boxTag_len]
theorem p8_len {v : Int} : (p8 v).length = 8 := rfl
end Go.Proofs.Ytmfnldkiaodkpaa.W
namespace Go.Proofs.Ytmfnldkiaodkpaa.Vm
open Go Go.Proofs Go.Proofs.Ytmfnldkiaodkpaa
end Go.Proofs.Ytmfnldkiaodkpaa.Vm

namespace Go.Proofs.Ytmfnldkiaodkpaa.Vm
open Go Go.Proofs Go.Proofs.Ytmfnldkiaodkpaa
set_option maxRecDepth 100000
end Go.Proofs.Ytmfnldkiaodkpaa.Vm
