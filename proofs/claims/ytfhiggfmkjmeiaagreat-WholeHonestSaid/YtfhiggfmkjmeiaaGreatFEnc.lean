import Derived.Test.YtfhiggfmkjmeiaaGreatFRaw
set_option linter.unusedVariables false
set_option linter.unusedSimpArgs false
set_option linter.unusedSectionVars false
namespace Go.Proofs.YtfhiggfmkjmeiaaGreat
open Go Go.RowKit
set_option maxRecDepth 100000
theorem cnew_sp  :Sp P 118 [] [] (.pt 0 0) [.blk [.pt 1 0,.pt 2 0] 314,hC,.blk [.pt 3 0,.sl 4] 368,gF,.row eB gen] :=
 so Tryz.f118 7 [.id 5,.id 1,.id 3,.id 2,.id 4] (.c [] (hnew_sp) (.c [] (gfNew_sp) (.c [.id 2] (rsnew_sp) .nil)))
def pf (b:Bool):Nat:=bif b then 1 else 0
theorem pf_lt (b:Bool):pf b < 2:=by cases b <;> decide
def cwB (l:Nat->Nat) (n:Int) (b:Bool) (k:Nat):List Nat:=lowL (wdF l k 8) 8 ++ [chk (wdF l k 8) (parF n) (pf b)]
theorem cwB_len (l:Nat->Nat) (n:Int) (b:Bool) (k:Nat):(cwB l n b k).length=9:=by unfold cwB; rw [List.length_append,lowL_len]; rfl
theorem cwB_B8 (l:Nat->Nat) (n:Int) (b:Bool) (k:Nat):B8 (cwB l n b k):=(lowL_B8 _ _).app (.mem fun y hy=>by rw [List.mem_singleton.1 hy]; exact chk_lt _ _ _)
def encB (l:Nat->Nat) (n:Int) (b:Bool):Nat->Nat->Nat
 | 0=>fun _=>0
 | k + 1=>putN (encB l n b k) (9 * k) 9 (fun j=>(cwB l n b k).getD j 0)
theorem encB_lt (l:Nat->Nat) (n:Int) (b:Bool):∀ k j,encB l n b k j < 256
 | 0,_=>(by decide:(0:Nat) < 256)
 | k + 1,j=>putN_lt (encB_lt l n b k) (cwB_B8 l n b k) _ _ j
def hfF (l:Nat->Nat):Nat->Nat->Nat
 | 0=>l
 | k + 1=>fun j=>l (32 * (k + 1) + j)
theorem hfF_lt {l:Nat->Nat} (hl:∀ j,l j < 256):∀ k j,hfF l k j < 256
 | 0,j=>hl j
 | k + 1,j=>hl _
def cwC (l:Nat->Nat) (n:Int) (b:Bool) (k:Nat):List Nat:=arL (ckF (hfF l k) (viF n b)) 4 0 ++ arL (hfF l k) 32 0
theorem cwC_len (l:Nat->Nat) (n:Int) (b:Bool) (k:Nat):(cwC l n b k).length=36:=by unfold cwC; rw [List.length_append,arL_len,arL_len]
theorem cwC_B8 {l:Nat->Nat} (hl:∀ j,l j < 256) (n:Int) (b:Bool) (k:Nat):B8 (cwC l n b k):=(arL_B8 (ckF_lt (hfF_lt hl k) (viF_lt n b)) _ _).app (arL_B8 (hfF_lt hl k) _ _)
def encC (l:Nat->Nat) (n:Int) (b:Bool):Nat->Nat->Nat
 | 0=>fun _=>0
 | k + 1=>putN (encC l n b k) (36 * k) 36 (fun j=>(cwC l n b k).getD j 0)
theorem encC_lt {l:Nat->Nat} (hl:∀ j,l j < 256) (n:Int) (b:Bool):∀ k j,encC l n b k j < 256
 | 0,_=>(by decide:(0:Nat) < 256)
 | k + 1,j=>putN_lt (encC_lt hl n b k) (cwC_B8 hl n b k) _ _ j
theorem encode_1 (l:Nat->Nat) (n:Int) (b:Bool) (hl:∀ j,l j < 256):Sp P 191 [.pt 0 0,vn 1,.ar .u8 64 (nf l),vi n,vt b] [.ro (.blk [.pt 1 0,.pt 2 0] 314),.ro (hC),.ro (.blk [.pt 3 0,.sl 4] 368),.ro (gF),.ro (.row eB gen)] (.ar .u8 72 (nf (encB l n b 8))) [.ro (.blk [.pt 1 0,.pt 2 0] 314),.ro (hC),.ro (.blk [.pt 3 0,.sl 4] 368),.ro (gF),.ro (.row eB gen)] :=
 so Tryz.f191 68 (ir 0 5) (.y (.c [] (gparity_sp n) (.c [] (words_sp l) (.lu 8 (.y (.c [] (word_sp l 0 hl (by decide)) (.c [] (low_sp (wdF l 0 8)) (.c [] (flag_sp b) (.c [.id 1] (check_sp (wdF l 0 8) (parF n) (bif b then 1 else 0) (wdF_lt hl _ 8 (Nat.le_refl _)) (parF_lt n) (pf_lt b)) (.bs 42 (e:=eB) [chk (wdF l 0 8) (parF n) (pf b)] (.ap (e:=eB) (l:=lowL (wdF l 0 8) 8) (l':=[chk (wdF l 0 8) (parF n) (pf b)]) .row .row (by rw [lowL_len]; show 9<=2147483648; decide) (.c [.id 20] (put_1_0 (fun _=>0) (cwB l n b 0) (cwB_len l n b _)) (.n (.y (.c [] (word_sp l 1 hl (by decide)) (.c [] (low_sp (wdF l 1 8)) (.c [] (flag_sp b) (.c [.id 1] (check_sp (wdF l 1 8) (parF n) (bif b then 1 else 0) (wdF_lt hl _ 8 (Nat.le_refl _)) (parF_lt n) (pf_lt b)) (.bs 42 (e:=eB) [chk (wdF l 1 8) (parF n) (pf b)] (.ap (e:=eB) (l:=lowL (wdF l 1 8) 8) (l':=[chk (wdF l 1 8) (parF n) (pf b)]) .row .row (by rw [lowL_len]; show 9<=2147483648; decide) (.c [.id 27] (put_1_1 (putN (fun _=>0) 0 9 (fun j=>(cwB l n b 0).getD j 0)) (cwB l n b 1) (cwB_len l n b _)) (.n (.y (.c [] (word_sp l 2 hl (by decide)) (.c [] (low_sp (wdF l 2 8)) (.c [] (flag_sp b) (.c [.id 1] (check_sp (wdF l 2 8) (parF n) (bif b then 1 else 0) (wdF_lt hl _ 8 (Nat.le_refl _)) (parF_lt n) (pf_lt b)) (.bs 42 (e:=eB) [chk (wdF l 2 8) (parF n) (pf b)] (.ap (e:=eB) (l:=lowL (wdF l 2 8) 8) (l':=[chk (wdF l 2 8) (parF n) (pf b)]) .row .row (by rw [lowL_len]; show 9<=2147483648; decide) (.c [.id 34] (put_1_2 (putN (putN (fun _=>0) 0 9 (fun j=>(cwB l n b 0).getD j 0)) 9 9 (fun j=>(cwB l n b 1).getD j 0)) (cwB l n b 2) (cwB_len l n b _)) (.n (.y (.c [] (word_sp l 3 hl (by decide)) (.c [] (low_sp (wdF l 3 8)) (.c [] (flag_sp b) (.c [.id 1] (check_sp (wdF l 3 8) (parF n) (bif b then 1 else 0) (wdF_lt hl _ 8 (Nat.le_refl _)) (parF_lt n) (pf_lt b)) (.bs 42 (e:=eB) [chk (wdF l 3 8) (parF n) (pf b)] (.ap (e:=eB) (l:=lowL (wdF l 3 8) 8) (l':=[chk (wdF l 3 8) (parF n) (pf b)]) .row .row (by rw [lowL_len]; show 9<=2147483648; decide) (.c [.id 41] (put_1_3 (putN (putN (putN (fun _=>0) 0 9 (fun j=>(cwB l n b 0).getD j 0)) 9 9 (fun j=>(cwB l n b 1).getD j 0)) 18 9 (fun j=>(cwB l n b 2).getD j 0)) (cwB l n b 3) (cwB_len l n b _)) (.n (.y (.c [] (word_sp l 4 hl (by decide)) (.c [] (low_sp (wdF l 4 8)) (.c [] (flag_sp b) (.c [.id 1] (check_sp (wdF l 4 8) (parF n) (bif b then 1 else 0) (wdF_lt hl _ 8 (Nat.le_refl _)) (parF_lt n) (pf_lt b)) (.bs 42 (e:=eB) [chk (wdF l 4 8) (parF n) (pf b)] (.ap (e:=eB) (l:=lowL (wdF l 4 8) 8) (l':=[chk (wdF l 4 8) (parF n) (pf b)]) .row .row (by rw [lowL_len]; show 9<=2147483648; decide) (.c [.id 48] (put_1_4 (putN (putN (putN (putN (fun _=>0) 0 9 (fun j=>(cwB l n b 0).getD j 0)) 9 9 (fun j=>(cwB l n b 1).getD j 0)) 18 9 (fun j=>(cwB l n b 2).getD j 0)) 27 9 (fun j=>(cwB l n b 3).getD j 0)) (cwB l n b 4) (cwB_len l n b _)) (.n (.y (.c [] (word_sp l 5 hl (by decide)) (.c [] (low_sp (wdF l 5 8)) (.c [] (flag_sp b) (.c [.id 1] (check_sp (wdF l 5 8) (parF n) (bif b then 1 else 0) (wdF_lt hl _ 8 (Nat.le_refl _)) (parF_lt n) (pf_lt b)) (.bs 42 (e:=eB) [chk (wdF l 5 8) (parF n) (pf b)] (.ap (e:=eB) (l:=lowL (wdF l 5 8) 8) (l':=[chk (wdF l 5 8) (parF n) (pf b)]) .row .row (by rw [lowL_len]; show 9<=2147483648; decide) (.c [.id 55] (put_1_5 (putN (putN (putN (putN (putN (fun _=>0) 0 9 (fun j=>(cwB l n b 0).getD j 0)) 9 9 (fun j=>(cwB l n b 1).getD j 0)) 18 9 (fun j=>(cwB l n b 2).getD j 0)) 27 9 (fun j=>(cwB l n b 3).getD j 0)) 36 9 (fun j=>(cwB l n b 4).getD j 0)) (cwB l n b 5) (cwB_len l n b _)) (.n (.y (.c [] (word_sp l 6 hl (by decide)) (.c [] (low_sp (wdF l 6 8)) (.c [] (flag_sp b) (.c [.id 1] (check_sp (wdF l 6 8) (parF n) (bif b then 1 else 0) (wdF_lt hl _ 8 (Nat.le_refl _)) (parF_lt n) (pf_lt b)) (.bs 42 (e:=eB) [chk (wdF l 6 8) (parF n) (pf b)] (.ap (e:=eB) (l:=lowL (wdF l 6 8) 8) (l':=[chk (wdF l 6 8) (parF n) (pf b)]) .row .row (by rw [lowL_len]; show 9<=2147483648; decide) (.c [.id 62] (put_1_6 (putN (putN (putN (putN (putN (putN (fun _=>0) 0 9 (fun j=>(cwB l n b 0).getD j 0)) 9 9 (fun j=>(cwB l n b 1).getD j 0)) 18 9 (fun j=>(cwB l n b 2).getD j 0)) 27 9 (fun j=>(cwB l n b 3).getD j 0)) 36 9 (fun j=>(cwB l n b 4).getD j 0)) 45 9 (fun j=>(cwB l n b 5).getD j 0)) (cwB l n b 6) (cwB_len l n b _)) (.n (.y (.c [] (word_sp l 7 hl (by decide)) (.c [] (low_sp (wdF l 7 8)) (.c [] (flag_sp b) (.c [.id 1] (check_sp (wdF l 7 8) (parF n) (bif b then 1 else 0) (wdF_lt hl _ 8 (Nat.le_refl _)) (parF_lt n) (pf_lt b)) (.bs 42 (e:=eB) [chk (wdF l 7 8) (parF n) (pf b)] (.ap (e:=eB) (l:=lowL (wdF l 7 8) 8) (l':=[chk (wdF l 7 8) (parF n) (pf b)]) .row .row (by rw [lowL_len]; show 9<=2147483648; decide) (.c [.id 69] (put_1_7 (putN (putN (putN (putN (putN (putN (putN (fun _=>0) 0 9 (fun j=>(cwB l n b 0).getD j 0)) 9 9 (fun j=>(cwB l n b 1).getD j 0)) 18 9 (fun j=>(cwB l n b 2).getD j 0)) 27 9 (fun j=>(cwB l n b 3).getD j 0)) 36 9 (fun j=>(cwB l n b 4).getD j 0)) 45 9 (fun j=>(cwB l n b 5).getD j 0)) 54 9 (fun j=>(cwB l n b 6).getD j 0)) (cwB l n b 7) (cwB_len l n b _)) (.n2 .nil))))))))))))))))))))))))))))))))))))))))))))))))))))))))))))))))))))))))))))
theorem encode_2 (l:Nat->Nat) (n:Int) (b:Bool) (hl:∀ j,l j < 256):Sp P 191 [.pt 0 0,vn 2,.ar .u8 64 (nf l),vi n,vt b] [.ro (.blk [.pt 1 0,.pt 2 0] 314),.ro (hC),.ro (.blk [.pt 3 0,.sl 4] 368),.ro (gF),.ro (.row eB gen)] (.ar .u8 72 (nf (encC l n b 2))) [.ro (.blk [.pt 1 0,.pt 2 0] 314),.ro (hC),.ro (.blk [.pt 3 0,.sl 4] 368),.ro (gF),.ro (.row eB gen)] :=
 so Tryz.f191 26 (ir 0 5) (.n (.y (.c [] (virtual_sp n b) (.c [] (halves_sp l) (.lu 2 (.y (.sl (i:=0) (n:=64) (m:=64) (by decide) (.c (ir 2 3) (checks_sp l (viF n b) (fun j=>hl _) (viF_lt n b)) (.ap (e:=eB) (l:=arL (ckF (hfF l 0) (viF n b)) 4 0) (l':=arL (hfF l 0) 32 0) (.flat _ _ (ar_flat (ckF (hfF l 0) (viF n b)) 4)) (.flat _ _ (ar_flat (hfF l 0) 32)) (by rw [arL_len,arL_len]; decide) (.c [.id 20] (put_2_0 (fun _=>0) (cwC l n b 0) (cwC_len l n b _)) (.n (.y (.sl (i:=32) (n:=32) (m:=64) (by decide) (.c (ir 2 3) (checks_sp (fun j=>l (32 + j)) (viF n b) (fun j=>hl _) (viF_lt n b)) (.ap (e:=eB) (l:=arL (ckF (hfF l 1) (viF n b)) 4 0) (l':=arL (hfF l 1) 32 0) (.flat _ _ (ar_flat (ckF (hfF l 1) (viF n b)) 4)) (.flat _ _ (ar_flat (hfF l 1) 32)) (by rw [arL_len,arL_len]; decide) (.c [.id 27] (put_2_1 (putN (fun _=>0) 0 36 (fun j=>(cwC l n b 0).getD j 0)) (cwC l n b 1) (cwC_len l n b _)) (.n2 .nil)))))))))))))))))
def bitD (l:List Nat):Nat:=nbF (l.take 8) (l.take 8).length
def bitS (l:List Nat) (n:Int):Nat:=syn (bitD l) (parF n) 0 (l.getD 8 0)
def bitX (l:List Nat) (n:Int):Nat:=hfix (bitD l) (l.getD 8 0) (parF n)
def bitK (l:List Nat) (n:Int):Nat:=if vkind (bitS l n)=0 then 0 else if vkind (bitS l n)=1 then 1 else if vkind (bitS l n)=2 then 2 else 3
theorem bitD_lt {l:List Nat} (b:B8 l):bitD l < 18446744073709551616:=nbF_lt (b.take 8) _ (by rw [List.length_take]; omega)
def chS (l:List Nat) (n:Int):Nat->Nat:=syF (fun j=>l.getD j 0) (viF n false)
def chX (l:List Nat) (n:Int):Nat->Nat:=rsfix (fun j=>l.getD j 0) (viF n false)
def chK (l:List Nat) (n:Int):Nat:=if lkind (chS l n)=0 then 0 else if lkind (chS l n)=1 then 1 else if lkind (chS l n)=2∧lplace (chS l n)=38∧lval (chS l n)=128 then 2 else 3
theorem bits_sp_0 (l:List Nat) (n:Int) (hl:l.length=9) (bl:B8 l) (q1:(decide (vkind (syn (nbF (l.take 8) (l.take 8).length) (parF n) 0 (l.getD 8 0))=0))=true):Sp P 291 [.pt 0 0,.sl 5,vi n] [.ro (.blk [.pt 1 0,.pt 2 0] 314),.ro (hC),.ro (.blk [.pt 3 0,.sl 4] 368),.ro (gF),.ro (.row eB gen),.ro (.row eB l)] (.tu [vu (hfix (nbF (l.take 8) (l.take 8).length) (l.getD 8 0) (parF n)),vn 0]) [.ro (.blk [.pt 1 0,.pt 2 0] 314),.ro (hC),.ro (.blk [.pt 3 0,.sl 4] 368),.ro (gF),.ro (.row eB gen),.ro (.row eB l)] :=
 so Tryz.f291 5 (ir 0 6) (.sl (i:=0) (n:=8) (m:=l.length) (by omega) (.cw [.ss 5 0 1 8] (number_sp (l.take 8) (by rw [List.length_take]; omega) (bl.take _)) _ (congrArg (fun z:Fd=>[z]) (vwT eB l 8 (by omega))) (.ix (i:=8) (m:=l.length) (by omega) (.el (e:=eB) (gD (l:=l) (i:=8) (by omega)) (.c [] (gparity_sp n) (.c [.id 1] (hdecode_sp (nbF (l.take 8) (l.take 8).length) (l.getD 8 0) (parF n) (bitD_lt bl) (bl _) (parF_lt n)) (.t q1 .nil)))))))
theorem bits_sp_1 (l:List Nat) (n:Int) (hl:l.length=9) (bl:B8 l) (q1:(decide (vkind (syn (nbF (l.take 8) (l.take 8).length) (parF n) 0 (l.getD 8 0))=0))=false) (q2:(decide (vkind (syn (nbF (l.take 8) (l.take 8).length) (parF n) 0 (l.getD 8 0))=1))=true):Sp P 291 [.pt 0 0,.sl 5,vi n] [.ro (.blk [.pt 1 0,.pt 2 0] 314),.ro (hC),.ro (.blk [.pt 3 0,.sl 4] 368),.ro (gF),.ro (.row eB gen),.ro (.row eB l)] (.tu [vu (hfix (nbF (l.take 8) (l.take 8).length) (l.getD 8 0) (parF n)),vn 1]) [.ro (.blk [.pt 1 0,.pt 2 0] 314),.ro (hC),.ro (.blk [.pt 3 0,.sl 4] 368),.ro (gF),.ro (.row eB gen),.ro (.row eB l)] :=
 so Tryz.f291 5 (ir 0 6) (.sl (i:=0) (n:=8) (m:=l.length) (by omega) (.cw [.ss 5 0 1 8] (number_sp (l.take 8) (by rw [List.length_take]; omega) (bl.take _)) _ (congrArg (fun z:Fd=>[z]) (vwT eB l 8 (by omega))) (.ix (i:=8) (m:=l.length) (by omega) (.el (e:=eB) (gD (l:=l) (i:=8) (by omega)) (.c [] (gparity_sp n) (.c [.id 1] (hdecode_sp (nbF (l.take 8) (l.take 8).length) (l.getD 8 0) (parF n) (bitD_lt bl) (bl _) (parF_lt n)) (.t q1 (.t q2 .nil))))))))
theorem bits_sp_2 (l:List Nat) (n:Int) (hl:l.length=9) (bl:B8 l) (q1:(decide (vkind (syn (nbF (l.take 8) (l.take 8).length) (parF n) 0 (l.getD 8 0))=0))=false) (q2:(decide (vkind (syn (nbF (l.take 8) (l.take 8).length) (parF n) 0 (l.getD 8 0))=1))=false) (q3:(decide (vkind (syn (nbF (l.take 8) (l.take 8).length) (parF n) 0 (l.getD 8 0))=2))=true):Sp P 291 [.pt 0 0,.sl 5,vi n] [.ro (.blk [.pt 1 0,.pt 2 0] 314),.ro (hC),.ro (.blk [.pt 3 0,.sl 4] 368),.ro (gF),.ro (.row eB gen),.ro (.row eB l)] (.tu [vu (hfix (nbF (l.take 8) (l.take 8).length) (l.getD 8 0) (parF n)),vn 2]) [.ro (.blk [.pt 1 0,.pt 2 0] 314),.ro (hC),.ro (.blk [.pt 3 0,.sl 4] 368),.ro (gF),.ro (.row eB gen),.ro (.row eB l)] :=
 so Tryz.f291 5 (ir 0 6) (.sl (i:=0) (n:=8) (m:=l.length) (by omega) (.cw [.ss 5 0 1 8] (number_sp (l.take 8) (by rw [List.length_take]; omega) (bl.take _)) _ (congrArg (fun z:Fd=>[z]) (vwT eB l 8 (by omega))) (.ix (i:=8) (m:=l.length) (by omega) (.el (e:=eB) (gD (l:=l) (i:=8) (by omega)) (.c [] (gparity_sp n) (.c [.id 1] (hdecode_sp (nbF (l.take 8) (l.take 8).length) (l.getD 8 0) (parF n) (bitD_lt bl) (bl _) (parF_lt n)) (.t q1 (.t q2 (.t q3 .nil)))))))))
theorem bits_sp_3 (l:List Nat) (n:Int) (hl:l.length=9) (bl:B8 l) (q1:(decide (vkind (syn (nbF (l.take 8) (l.take 8).length) (parF n) 0 (l.getD 8 0))=0))=false) (q2:(decide (vkind (syn (nbF (l.take 8) (l.take 8).length) (parF n) 0 (l.getD 8 0))=1))=false) (q3:(decide (vkind (syn (nbF (l.take 8) (l.take 8).length) (parF n) 0 (l.getD 8 0))=2))=false):Sp P 291 [.pt 0 0,.sl 5,vi n] [.ro (.blk [.pt 1 0,.pt 2 0] 314),.ro (hC),.ro (.blk [.pt 3 0,.sl 4] 368),.ro (gF),.ro (.row eB gen),.ro (.row eB l)] (.tu [vu (hfix (nbF (l.take 8) (l.take 8).length) (l.getD 8 0) (parF n)),vn 3]) [.ro (.blk [.pt 1 0,.pt 2 0] 314),.ro (hC),.ro (.blk [.pt 3 0,.sl 4] 368),.ro (gF),.ro (.row eB gen),.ro (.row eB l)] :=
 so Tryz.f291 5 (ir 0 6) (.sl (i:=0) (n:=8) (m:=l.length) (by omega) (.cw [.ss 5 0 1 8] (number_sp (l.take 8) (by rw [List.length_take]; omega) (bl.take _)) _ (congrArg (fun z:Fd=>[z]) (vwT eB l 8 (by omega))) (.ix (i:=8) (m:=l.length) (by omega) (.el (e:=eB) (gD (l:=l) (i:=8) (by omega)) (.c [] (gparity_sp n) (.c [.id 1] (hdecode_sp (nbF (l.take 8) (l.take 8).length) (l.getD 8 0) (parF n) (bitD_lt bl) (bl _) (parF_lt n)) (.t q1 (.t q2 (.t q3 .nil)))))))))
theorem bits_sp (l:List Nat) (n:Int) (hl:l.length=9) (bl:B8 l):Sp P 291 [.pt 0 0,.sl 5,vi n] [.ro (.blk [.pt 1 0,.pt 2 0] 314),.ro (hC),.ro (.blk [.pt 3 0,.sl 4] 368),.ro (gF),.ro (.row eB gen),.ro (.row eB l)] (.tu [vu (bitX l n),vn (bitK l n)]) [.ro (.blk [.pt 1 0,.pt 2 0] 314),.ro (hC),.ro (.blk [.pt 3 0,.sl 4] 368),.ro (gF),.ro (.row eB gen),.ro (.row eB l)]:=by
 cases q1:decide (vkind (syn (nbF (l.take 8) (l.take 8).length) (parF n) 0 (l.getD 8 0))=0) with
 | true =>
   have e:(bitX l n)=(hfix (nbF (l.take 8) (l.take 8).length) (l.getD 8 0) (parF n)):=by first | rfl | (unfold bitK bitS bitD; simp_all)
   rw [e]
   have e:(bitK l n)=0:=by first | rfl | (unfold bitK bitS bitD; simp_all)
   rw [e]
   exact bits_sp_0 l n hl bl q1
 | false =>
   cases q2:decide (vkind (syn (nbF (l.take 8) (l.take 8).length) (parF n) 0 (l.getD 8 0))=1) with
   | true =>
     have e:(bitX l n)=(hfix (nbF (l.take 8) (l.take 8).length) (l.getD 8 0) (parF n)):=by first | rfl | (unfold bitK bitS bitD; simp_all)
     rw [e]
     have e:(bitK l n)=1:=by first | rfl | (unfold bitK bitS bitD; simp_all)
     rw [e]
     exact bits_sp_1 l n hl bl q1 q2
   | false =>
     cases q3:decide (vkind (syn (nbF (l.take 8) (l.take 8).length) (parF n) 0 (l.getD 8 0))=2) with
     | true =>
       have e:(bitX l n)=(hfix (nbF (l.take 8) (l.take 8).length) (l.getD 8 0) (parF n)):=by first | rfl | (unfold bitK bitS bitD; simp_all)
       rw [e]
       have e:(bitK l n)=2:=by first | rfl | (unfold bitK bitS bitD; simp_all)
       rw [e]
       exact bits_sp_2 l n hl bl q1 q2 q3
     | false =>
       have e:(bitX l n)=(hfix (nbF (l.take 8) (l.take 8).length) (l.getD 8 0) (parF n)):=by first | rfl | (unfold bitK bitS bitD; simp_all)
       rw [e]
       have e:(bitK l n)=3:=by first | rfl | (unfold bitK bitS bitD; simp_all)
       rw [e]
       exact bits_sp_3 l n hl bl q1 q2 q3
theorem chips_sp_0 (l:List Nat) (n:Int) (hl:l.length=36) (bl:B8 l) (q1:(decide (((lkind (syF (fun j=>l.getD j 0) (viF n false)):Nat):Int)=0))=true):Sp P 293 [.pt 0 0,.sl 5,vi n] [.ro (.blk [.pt 1 0,.pt 2 0] 314),.ro (hC),.ro (.blk [.pt 3 0,.sl 4] 368),.ro (gF),.ro (.row eB gen),.ro (.row eB l)] (.tu [.ar .u8 32 (nf (rsfix (fun j=>l.getD j 0) (viF n false))),vn 0]) [.ro (.blk [.pt 1 0,.pt 2 0] 314),.ro (hC),.ro (.blk [.pt 3 0,.sl 4] 368),.ro (gF),.ro (.row eB gen),.ro (.row eB l)] :=
 so Tryz.f293 9 (ir 0 6) (.sl (i:=0) (n:=36) (m:=l.length) (by omega) (.ld (ldN hl) (by rw [← ldN hl,List.drop_zero,List.length_take,eB.csLen,hl]; rfl) rfl (.c [] (virtual_sp n false) (.c (ir 2 3) (rsdecode_sp (fun j=>l.getD j 0) (viF n false) bl (viF_lt n false)) (.t q1 .nil)))))
theorem chips_sp_1 (l:List Nat) (n:Int) (hl:l.length=36) (bl:B8 l) (q1:(decide (((lkind (syF (fun j=>l.getD j 0) (viF n false)):Nat):Int)=0))=false) (q2:(decide (((lkind (syF (fun j=>l.getD j 0) (viF n false)):Nat):Int)=1))=true):Sp P 293 [.pt 0 0,.sl 5,vi n] [.ro (.blk [.pt 1 0,.pt 2 0] 314),.ro (hC),.ro (.blk [.pt 3 0,.sl 4] 368),.ro (gF),.ro (.row eB gen),.ro (.row eB l)] (.tu [.ar .u8 32 (nf (rsfix (fun j=>l.getD j 0) (viF n false))),vn 1]) [.ro (.blk [.pt 1 0,.pt 2 0] 314),.ro (hC),.ro (.blk [.pt 3 0,.sl 4] 368),.ro (gF),.ro (.row eB gen),.ro (.row eB l)] :=
 so Tryz.f293 9 (ir 0 6) (.sl (i:=0) (n:=36) (m:=l.length) (by omega) (.ld (ldN hl) (by rw [← ldN hl,List.drop_zero,List.length_take,eB.csLen,hl]; rfl) rfl (.c [] (virtual_sp n false) (.c (ir 2 3) (rsdecode_sp (fun j=>l.getD j 0) (viF n false) bl (viF_lt n false)) (.t q1 (.t q2 .nil))))))
theorem chips_sp_2 (l:List Nat) (n:Int) (hl:l.length=36) (bl:B8 l) (q1:(decide (((lkind (syF (fun j=>l.getD j 0) (viF n false)):Nat):Int)=0))=false) (q2:(decide (((lkind (syF (fun j=>l.getD j 0) (viF n false)):Nat):Int)=1))=false) (q3:(decide (((lkind (syF (fun j=>l.getD j 0) (viF n false)):Nat):Int)=2))=true) (q4:(decide (lplace (syF (fun j=>l.getD j 0) (viF n false))=38))=true) (q5:(decide (((lval (syF (fun j=>l.getD j 0) (viF n false)):Nat):Int)=128))=true):Sp P 293 [.pt 0 0,.sl 5,vi n] [.ro (.blk [.pt 1 0,.pt 2 0] 314),.ro (hC),.ro (.blk [.pt 3 0,.sl 4] 368),.ro (gF),.ro (.row eB gen),.ro (.row eB l)] (.tu [.ar .u8 32 (nf (rsfix (fun j=>l.getD j 0) (viF n false))),vn 2]) [.ro (.blk [.pt 1 0,.pt 2 0] 314),.ro (hC),.ro (.blk [.pt 3 0,.sl 4] 368),.ro (gF),.ro (.row eB gen),.ro (.row eB l)] :=
 so Tryz.f293 9 (ir 0 6) (.sl (i:=0) (n:=36) (m:=l.length) (by omega) (.ld (ldN hl) (by rw [← ldN hl,List.drop_zero,List.length_take,eB.csLen,hl]; rfl) rfl (.c [] (virtual_sp n false) (.c (ir 2 3) (rsdecode_sp (fun j=>l.getD j 0) (viF n false) bl (viF_lt n false)) (.t q1 (.t q2 (.t4 q3 (.t4 q4 (.t q5 .nil)))))))))
theorem chips_sp_3 (l:List Nat) (n:Int) (hl:l.length=36) (bl:B8 l) (q1:(decide (((lkind (syF (fun j=>l.getD j 0) (viF n false)):Nat):Int)=0))=false) (q2:(decide (((lkind (syF (fun j=>l.getD j 0) (viF n false)):Nat):Int)=1))=false) (q3:(decide (((lkind (syF (fun j=>l.getD j 0) (viF n false)):Nat):Int)=2))=true) (q4:(decide (lplace (syF (fun j=>l.getD j 0) (viF n false))=38))=true) (q5:(decide (((lval (syF (fun j=>l.getD j 0) (viF n false)):Nat):Int)=128))=false):Sp P 293 [.pt 0 0,.sl 5,vi n] [.ro (.blk [.pt 1 0,.pt 2 0] 314),.ro (hC),.ro (.blk [.pt 3 0,.sl 4] 368),.ro (gF),.ro (.row eB gen),.ro (.row eB l)] (.tu [.ar .u8 32 (nf (rsfix (fun j=>l.getD j 0) (viF n false))),vn 3]) [.ro (.blk [.pt 1 0,.pt 2 0] 314),.ro (hC),.ro (.blk [.pt 3 0,.sl 4] 368),.ro (gF),.ro (.row eB gen),.ro (.row eB l)] :=
 so Tryz.f293 9 (ir 0 6) (.sl (i:=0) (n:=36) (m:=l.length) (by omega) (.ld (ldN hl) (by rw [← ldN hl,List.drop_zero,List.length_take,eB.csLen,hl]; rfl) rfl (.c [] (virtual_sp n false) (.c (ir 2 3) (rsdecode_sp (fun j=>l.getD j 0) (viF n false) bl (viF_lt n false)) (.t q1 (.t q2 (.t4 q3 (.t4 q4 (.t q5 .nil)))))))))
theorem chips_sp_4 (l:List Nat) (n:Int) (hl:l.length=36) (bl:B8 l) (q1:(decide (((lkind (syF (fun j=>l.getD j 0) (viF n false)):Nat):Int)=0))=false) (q2:(decide (((lkind (syF (fun j=>l.getD j 0) (viF n false)):Nat):Int)=1))=false) (q3:(decide (((lkind (syF (fun j=>l.getD j 0) (viF n false)):Nat):Int)=2))=true) (q4:(decide (lplace (syF (fun j=>l.getD j 0) (viF n false))=38))=false):Sp P 293 [.pt 0 0,.sl 5,vi n] [.ro (.blk [.pt 1 0,.pt 2 0] 314),.ro (hC),.ro (.blk [.pt 3 0,.sl 4] 368),.ro (gF),.ro (.row eB gen),.ro (.row eB l)] (.tu [.ar .u8 32 (nf (rsfix (fun j=>l.getD j 0) (viF n false))),vn 3]) [.ro (.blk [.pt 1 0,.pt 2 0] 314),.ro (hC),.ro (.blk [.pt 3 0,.sl 4] 368),.ro (gF),.ro (.row eB gen),.ro (.row eB l)] :=
 so Tryz.f293 9 (ir 0 6) (.sl (i:=0) (n:=36) (m:=l.length) (by omega) (.ld (ldN hl) (by rw [← ldN hl,List.drop_zero,List.length_take,eB.csLen,hl]; rfl) rfl (.c [] (virtual_sp n false) (.c (ir 2 3) (rsdecode_sp (fun j=>l.getD j 0) (viF n false) bl (viF_lt n false)) (.t q1 (.t q2 (.t4 q3 (.t4 q4 (.n .nil)))))))))
theorem chips_sp_5 (l:List Nat) (n:Int) (hl:l.length=36) (bl:B8 l) (q1:(decide (((lkind (syF (fun j=>l.getD j 0) (viF n false)):Nat):Int)=0))=false) (q2:(decide (((lkind (syF (fun j=>l.getD j 0) (viF n false)):Nat):Int)=1))=false) (q3:(decide (((lkind (syF (fun j=>l.getD j 0) (viF n false)):Nat):Int)=2))=false):Sp P 293 [.pt 0 0,.sl 5,vi n] [.ro (.blk [.pt 1 0,.pt 2 0] 314),.ro (hC),.ro (.blk [.pt 3 0,.sl 4] 368),.ro (gF),.ro (.row eB gen),.ro (.row eB l)] (.tu [.ar .u8 32 (nf (rsfix (fun j=>l.getD j 0) (viF n false))),vn 3]) [.ro (.blk [.pt 1 0,.pt 2 0] 314),.ro (hC),.ro (.blk [.pt 3 0,.sl 4] 368),.ro (gF),.ro (.row eB gen),.ro (.row eB l)] :=
 so Tryz.f293 9 (ir 0 6) (.sl (i:=0) (n:=36) (m:=l.length) (by omega) (.ld (ldN hl) (by rw [← ldN hl,List.drop_zero,List.length_take,eB.csLen,hl]; rfl) rfl (.c [] (virtual_sp n false) (.c (ir 2 3) (rsdecode_sp (fun j=>l.getD j 0) (viF n false) bl (viF_lt n false)) (.t q1 (.t q2 (.t4 q3 (.n4 (.n .nil)))))))))
theorem chips_sp (l:List Nat) (n:Int) (hl:l.length=36) (bl:B8 l):Sp P 293 [.pt 0 0,.sl 5,vi n] [.ro (.blk [.pt 1 0,.pt 2 0] 314),.ro (hC),.ro (.blk [.pt 3 0,.sl 4] 368),.ro (gF),.ro (.row eB gen),.ro (.row eB l)] (.tu [.ar .u8 32 (nf (chX l n)),vn (chK l n)]) [.ro (.blk [.pt 1 0,.pt 2 0] 314),.ro (hC),.ro (.blk [.pt 3 0,.sl 4] 368),.ro (gF),.ro (.row eB gen),.ro (.row eB l)]:=by
 cases q1:decide (((lkind (syF (fun j=>l.getD j 0) (viF n false)):Nat):Int)=0) with
 | true =>
   have e:(chX l n)=(rsfix (fun j=>l.getD j 0) (viF n false)):=by first | rfl | (unfold chK chS; generalize syF (fun j=>l.getD j 0) (viF n false)=s at *; simp only [decide_eq_true_eq,decide_eq_false_iff_not] at *; repeat (first | omega | split))
   rw [e]
   have e:(chK l n)=0:=by first | rfl | (unfold chK chS; generalize syF (fun j=>l.getD j 0) (viF n false)=s at *; simp only [decide_eq_true_eq,decide_eq_false_iff_not] at *; repeat (first | omega | split))
   rw [e]
   exact chips_sp_0 l n hl bl q1
 | false =>
   cases q2:decide (((lkind (syF (fun j=>l.getD j 0) (viF n false)):Nat):Int)=1) with
   | true =>
     have e:(chX l n)=(rsfix (fun j=>l.getD j 0) (viF n false)):=by first | rfl | (unfold chK chS; generalize syF (fun j=>l.getD j 0) (viF n false)=s at *; simp only [decide_eq_true_eq,decide_eq_false_iff_not] at *; repeat (first | omega | split))
     rw [e]
     have e:(chK l n)=1:=by first | rfl | (unfold chK chS; generalize syF (fun j=>l.getD j 0) (viF n false)=s at *; simp only [decide_eq_true_eq,decide_eq_false_iff_not] at *; repeat (first | omega | split))
     rw [e]
     exact chips_sp_1 l n hl bl q1 q2
   | false =>
     cases q3:decide (((lkind (syF (fun j=>l.getD j 0) (viF n false)):Nat):Int)=2) with
     | true =>
       cases q4:decide (lplace (syF (fun j=>l.getD j 0) (viF n false))=38) with
       | true =>
         cases q5:decide (((lval (syF (fun j=>l.getD j 0) (viF n false)):Nat):Int)=128) with
         | true =>
           have e:(chX l n)=(rsfix (fun j=>l.getD j 0) (viF n false)):=by first | rfl | (unfold chK chS; generalize syF (fun j=>l.getD j 0) (viF n false)=s at *; simp only [decide_eq_true_eq,decide_eq_false_iff_not] at *; repeat (first | omega | split))
           rw [e]
           have e:(chK l n)=2:=by first | rfl | (unfold chK chS; generalize syF (fun j=>l.getD j 0) (viF n false)=s at *; simp only [decide_eq_true_eq,decide_eq_false_iff_not] at *; repeat (first | omega | split))
           rw [e]
           exact chips_sp_2 l n hl bl q1 q2 q3 q4 q5
         | false =>
           have e:(chX l n)=(rsfix (fun j=>l.getD j 0) (viF n false)):=by first | rfl | (unfold chK chS; generalize syF (fun j=>l.getD j 0) (viF n false)=s at *; simp only [decide_eq_true_eq,decide_eq_false_iff_not] at *; repeat (first | omega | split))
           rw [e]
           have e:(chK l n)=3:=by first | rfl | (unfold chK chS; generalize syF (fun j=>l.getD j 0) (viF n false)=s at *; simp only [decide_eq_true_eq,decide_eq_false_iff_not] at *; repeat (first | omega | split))
           rw [e]
           exact chips_sp_3 l n hl bl q1 q2 q3 q4 q5
       | false =>
         have e:(chX l n)=(rsfix (fun j=>l.getD j 0) (viF n false)):=by first | rfl | (unfold chK chS; generalize syF (fun j=>l.getD j 0) (viF n false)=s at *; simp only [decide_eq_true_eq,decide_eq_false_iff_not] at *; repeat (first | omega | split))
         rw [e]
         have e:(chK l n)=3:=by first | rfl | (unfold chK chS; generalize syF (fun j=>l.getD j 0) (viF n false)=s at *; simp only [decide_eq_true_eq,decide_eq_false_iff_not] at *; repeat (first | omega | split))
         rw [e]
         exact chips_sp_4 l n hl bl q1 q2 q3 q4
     | false =>
       have e:(chX l n)=(rsfix (fun j=>l.getD j 0) (viF n false)):=by first | rfl | (unfold chK chS; generalize syF (fun j=>l.getD j 0) (viF n false)=s at *; simp only [decide_eq_true_eq,decide_eq_false_iff_not] at *; repeat (first | omega | split))
       rw [e]
       have e:(chK l n)=3:=by first | rfl | (unfold chK chS; generalize syF (fun j=>l.getD j 0) (viF n false)=s at *; simp only [decide_eq_true_eq,decide_eq_false_iff_not] at *; repeat (first | omega | split))
       rw [e]
       exact chips_sp_5 l n hl bl q1 q2 q3
end Go.Proofs.YtfhiggfmkjmeiaaGreat
