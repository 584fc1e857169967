import Derived.Test.YtfhiggfmkjmeiaaGreatFxX
set_option linter.all false
namespace Go.Proofs.YtfhiggfmkjmeiaaGreat
open Go Go.RowKit
set_option maxRecDepth 100000
def tw (a:Nat):Nat:=if a < 128 then 2 * a else xr (2 * a % 256) 29
theorem Avm {a:Nat} (h:a < 256):tw a < 256:=by
 unfold tw
 split
 ·omega
 ·exact I5 (by omega) (by decide)
theorem Ayy (a:Nat) (h:a < 256) (q:decide (((a / 128 * 128:Nat):Int)=0)=true):Sp P 244 [vb a] [] (vb (2 * a % 256)) [] :=
 so Tryz.f244 3 [] (.e 4 (Azh a (by omega)) (.g q (.e 10 (Azg a (by omega)) .nil)))
theorem Ayz (a:Nat) (h:a < 256) (q:decide (((a / 128 * 128:Nat):Int)=0)=false):Sp P 244 [vb a] [] (vb (xr (2 * a % 256) 29)) [] :=
 so Tryz.f244 3 [] (.e 4 (Azh a (by omega)) (.g q (.e 7 (Azg a (by omega)) (.e 8 (Yt (2 * a % 256) 29 (by omega) (by omega)) .nil))))
theorem Aq3 (a:Nat) (h:a < 256):Sp P 244 [vb a] [] (vb (tw a)) []:=by
 by_cases hq:a < 128
 ·have e:tw a=2 * a % 256:=by unfold tw; rw [if_pos hq]; omega
  rw [e]
  exact Ayy a h (by simp; omega)
 ·have e:tw a=xr (2 * a % 256) 29:=by unfold tw; rw [if_neg hq]
  rw [e]
  exact Ayz a h (by simp; omega)
def cu (x:Int):Nat:=(x % 255).toNat
theorem Aue (x:Int):cu x < 255:=by unfold cu; omega
theorem cuA {x:Int} (h:¬ x.tmod 255 < 0):Value.int .i64 (x.tmod 255)=.int .i64 ((cu x:Nat):Int):=by
 congr 1
 have h1:=Int.tmod_add_mul_tdiv x 255
 have h2:=Int.tmod_lt_of_pos x (b:=255) (by decide)
 unfold cu
 omega
theorem cuB {x:Int} (h:x.tmod 255 < 0):Value.int .i64 (IntKind.i64.wrap (x.tmod 255 + 255))=.int .i64 ((cu x:Nat):Int):=by
 have h1:=Int.tmod_add_mul_tdiv x 255
 have h2:-255 < x.tmod 255:=by
  rcases Int.le_total 0 x with h3 | h3
  ·have:=Int.tmod_nonneg 255 h3; omega
  ·have h4:=Int.neg_tmod x 255
   have h5:=Int.tmod_lt_of_pos (-x) (b:=255) (by decide)
   omega
 refine aW ⟨?_,?_,?_⟩ <;> unfold cu <;> omega
theorem B1o (x:Int) (q:¬ x.tmod 255 < 0):Sp P 280 [vi x] [] (vn (cu x)) [] :=
 so Tryz.f280 3 [] (.e 4 (cuA q) (.t (sQF (((cu x:Nat):Int) < 0) (by omega)) .nil))
theorem B1p (x:Int) (q:x.tmod 255 < 0):Sp P 280 [vi x] [] (vn (cu x)) [] :=
 so Tryz.f280 3 [] (.t (show (decide (x.tmod 255 < 0))=true from tq q) (.e 8 (cuB q) .nil))
theorem Awh (x:Int):Sp P 280 [vi x] [] (vn (cu x)) []:=by
 by_cases q:x.tmod 255 < 0
 ·exact B1p x q
 ·exact B1o x q
def pw:Nat->Nat
 | 0=>1
 | i + 1=>tw (pw i)
theorem Qw:∀ i,pw i < 256
 | 0=>by decide
 | i + 1=>Avm (Qw i)
def ex (i:Nat):Nat:=if i < 255 then pw i else 0
theorem Wy (i:Nat):ex i < 256:=by unfold ex; split; exact Qw i; decide
def lgs:Nat->Nat->Nat
 | 0,_=>0
 | n + 1,v=>if v=pw n then n else lgs n v
def lg (v:Nat):Nat:=lgs 255 v
theorem An2:∀ n v:Nat,n<=255->lgs n v < 255
 | 0,v,_=>by simp [lgs]
 | n + 1,v,h=>by
   unfold lgs
   split
   ·omega
   ·exact An2 n v (by omega)
theorem Afm (v:Nat):lg v < 255:=An2 255 v (Nat.le_refl _)
def exA:Nat->Nat->Int
 | 0=>fun _=>0
 | n + 1=>upI (exA n) n ((pw n:Nat):Int)
def lgA:Nat->Nat->Int
 | 0=>fun _=>0
 | n + 1=>upI (lgA n) (pw n) (n:Int)
theorem Ax1 (n:Nat):exA n=nf fun i=>if i < n then pw i else 0:=by
 induction n with
 | zero=>rfl
 | succ n ih =>
   funext i
   unfold exA
   rw [ih]
   unfold upI nf
   by_cases h:i=n
   ·subst h
    rw [if_pos rfl]
    show _=(((if i < i + 1 then pw i else 0):Nat):Int)
    rw [if_pos (by omega)]
   ·rw [if_neg h]
    show (((if i < n then pw i else 0):Nat):Int)=(((if i < n + 1 then pw i else 0):Nat):Int)
    by_cases h2:i < n
    ·rw [if_pos h2,if_pos (by omega)]
    ·rw [if_neg h2,if_neg (by omega)]
theorem Ay0 (n:Nat):lgA n=nf (lgs n):=by
 induction n with
 | zero=>rfl
 | succ n ih =>
   funext i
   unfold lgA
   rw [ih]
   unfold upI nf
   show (if i=pw n then (n:Int) else ((lgs n i:Nat):Int))=(((if i=pw n then n else lgs n i):Nat):Int)
   split <;> rfl
abbrev gF:B:=.blk [.ar .u8 255 (nf ex),.ar .i64 256 (nf lg)] 371
theorem At4  :Sp P 188 [] [] (.pt 0 0) [.blk [.ar .u8 255 (exA 255),.ar .i64 256 (lgA 255)] 371] :=
 so Tryz.f188 3 [.id 1] (.lp 255 2 [] [] (fun i=>[(6,vn i),(2,vb (pw i))]) (fun i=>[(1,.blk [.ar .u8 255 (exA i),.ar .i64 256 (lgA i)] 371)]) (fun i hi=>(.t (sQT ((i:Int) < 255) (by omega)) (.ix (i:=i) (m:=255) hi (.lt (i:=i) (n:=255) hi (.ix (i:=pw i) (m:=256) (Qw _) (.lt (i:=pw i) (n:=256) (Qw _) (.c [] (Aq3 (pw i) (Qw _)) (.e 23 (Ck (a:=(i:Int)) (b:=1) (c:=((i + 1:Nat):Int)) (by omega)) .nil)))))))) (.n .nil))
theorem Ame:Sp P 188 [] [] (.pt 0 0) [gF]:=by
 have h:=At4
 rw [Ax1,Ay0] at h
 exact h
theorem A53 (x:Int) :Sp P 242 [.pt 0 0,vi x] [.ro (gF)] (vb (ex (cu x))) [.ro (gF)] :=
 so Tryz.f242 3 [.id 0] (.c [] (Awh x) (.ix (i:=cu x) (m:=255) (Aue _) (.lt (i:=cu x) (n:=255) (Aue _) .nil)))
def Am (a b:Nat):Nat:=if a=0 then 0 else if b=0 then 0 else ex (cu ((lg a + lg b:Nat):Int))
def Av (a b:Nat):Nat:=if b=0 then 0 else if a=0 then 0 else ex (cu ((lg a:Nat) - (lg b:Nat):Int))
def noI (b:Nat):Int:=if b=0 then 16 else 0
def K1 (a:Nat):Nat:=if a=0 then 0 else lg a
theorem Cz (a b:Nat):Am a b < 256:=by unfold Am; split; decide; split; decide; exact Wy _
theorem Dc (a b:Nat):Av a b < 256:=by unfold Av; split; decide; split; decide; exact Wy _
theorem Anz (a:Nat) (b:Nat) (ha:a < 256) (hb:b < 256) (q1:(decide ((a:Int)=0))=true):Sp P 279 [.pt 0 0,vb a,vb b] [.ro (gF)] (vb 0) [.ro (gF)] :=
 so Tryz.f279 3 [.id 0] (.t2 q1 (.t q1 (.y .nil)))
theorem Ao0 (a:Nat) (b:Nat) (ha:a < 256) (hb:b < 256) (q1:(decide ((a:Int)=0))=false) (q2:(decide ((b:Int)=0))=true):Sp P 279 [.pt 0 0,vb a,vb b] [.ro (gF)] (vb 0) [.ro (gF)] :=
 so Tryz.f279 3 [.id 0] (.t2 q1 (.t q1 (.t q2 .nil)))
theorem Ao1 (a:Nat) (b:Nat) (ha:a < 256) (hb:b < 256) (q1:(decide ((a:Int)=0))=false) (q2:(decide ((b:Int)=0))=false):Sp P 279 [.pt 0 0,vb a,vb b] [.ro (gF)] (vb (ex (cu (((lg a) + (lg b):Nat):Int)))) [.ro (gF)] :=
 so Tryz.f279 3 [.id 0] (.t2 q1 (.t q1 (.t q2 (.ix (i:=a) (m:=256) ha (.lt (i:=a) (n:=256) ha (.ix (i:=b) (m:=256) hb (.lt (i:=b) (n:=256) hb (.e 26 (Ck (a:=((lg a:Nat):Int)) (b:=((lg b:Nat):Int)) (c:=(((lg a) + (lg b):Nat):Int)) (by have:=Afm a; have:=Afm b; omega)) (.c [.id 0] (A53 (((lg a) + (lg b):Nat):Int)) .nil)))))))))
theorem Ed (a:Nat) (b:Nat) (ha:a < 256) (hb:b < 256):Sp P 279 [.pt 0 0,vb a,vb b] [.ro (gF)] (vb (Am a b)) [.ro (gF)]:=by
 cases q1:decide ((a:Int)=0) with
 | true =>
   have e:(Am a b)=0:=by unfold Am; simp_all
   rw [e]
   exact Anz a b ha hb q1
 | false =>
   cases q2:decide ((b:Int)=0) with
   | true =>
     have e:(Am a b)=0:=by unfold Am; simp_all
     rw [e]
     exact Ao0 a b ha hb q1 q2
   | false =>
     have e:(Am a b)=(ex (cu (((lg a) + (lg b):Nat):Int))):=by unfold Am; simp_all
     rw [e]
     exact Ao1 a b ha hb q1 q2
theorem Akw (a:Nat) (b:Nat) (ha:a < 256) (hb:b < 256) (q1:(decide ((b:Int)=0))=true):Sp P 330 [.pt 0 0,vb a,vb b] [.ro (gF)] (.tu [vb 0,vn 16]) [.ro (gF)] :=
 so Tryz.f330 3 [.id 0] (.t q1 .nil)
theorem Akx (a:Nat) (b:Nat) (ha:a < 256) (hb:b < 256) (q1:(decide ((b:Int)=0))=false) (q2:(decide ((a:Int)=0))=true):Sp P 330 [.pt 0 0,vb a,vb b] [.ro (gF)] (.tu [vb 0,vn 0]) [.ro (gF)] :=
 so Tryz.f330 3 [.id 0] (.t q1 (.t q2 .nil))
theorem Aky (a:Nat) (b:Nat) (ha:a < 256) (hb:b < 256) (q1:(decide ((b:Int)=0))=false) (q2:(decide ((a:Int)=0))=false):Sp P 330 [.pt 0 0,vb a,vb b] [.ro (gF)] (.tu [vb (ex (cu (((lg a:Nat):Int) - ((lg b:Nat):Int)))),vn 0]) [.ro (gF)] :=
 so Tryz.f330 3 [.id 0] (.t q1 (.t q2 (.ix (i:=a) (m:=256) ha (.lt (i:=a) (n:=256) ha (.ix (i:=b) (m:=256) hb (.lt (i:=b) (n:=256) hb (.e 27 (Yq (a:=((lg a:Nat):Int)) (b:=((lg b:Nat):Int)) (c:=((lg a:Nat):Int) - ((lg b:Nat):Int)) (by have:=Afm a; have:=Afm b; omega)) (.c [.id 0] (A53 (((lg a:Nat):Int) - ((lg b:Nat):Int))) .nil))))))))
theorem Np (a:Nat) (b:Nat) (ha:a < 256) (hb:b < 256):Sp P 330 [.pt 0 0,vb a,vb b] [.ro (gF)] (.tu [vb (Av a b),vi (noI b)]) [.ro (gF)]:=by
 cases q1:decide ((b:Int)=0) with
 | true =>
   have e:(Av a b)=0:=by simp_all [Av,noI]
   rw [e]
   have e:(noI b)=16:=by simp_all [Av,noI]
   rw [e]
   exact Akw a b ha hb q1
 | false =>
   cases q2:decide ((a:Int)=0) with
   | true =>
     have e:(Av a b)=0:=by simp_all [Av,noI]
     rw [e]
     have e:(noI b)=0:=by simp_all [Av,noI]
     rw [e]
     exact Akx a b ha hb q1 q2
   | false =>
     have e:(Av a b)=(ex (cu (((lg a:Nat):Int) - ((lg b:Nat):Int)))):=by simp_all [Av,noI]
     rw [e]
     have e:(noI b)=0:=by simp_all [Av,noI]
     rw [e]
     exact Aky a b ha hb q1 q2
theorem Ang (a:Nat) (ha:a < 256) (q1:(decide ((a:Int)=0))=true):Sp P 349 [.pt 0 0,vb a] [.ro (gF)] (.tu [vn 0,vn 16]) [.ro (gF)] :=
 so Tryz.f349 3 [.id 0] (.t q1 .nil)
theorem Anh (a:Nat) (ha:a < 256) (q1:(decide ((a:Int)=0))=false):Sp P 349 [.pt 0 0,vb a] [.ro (gF)] (.tu [vn (lg a),vn 0]) [.ro (gF)] :=
 so Tryz.f349 3 [.id 0] (.t q1 (.ix (i:=a) (m:=256) ha (.lt (i:=a) (n:=256) ha .nil)))
theorem A5u (a:Nat) (ha:a < 256):Sp P 349 [.pt 0 0,vb a] [.ro (gF)] (.tu [vn (K1 a),vi (noI a)]) [.ro (gF)]:=by
 cases q1:decide ((a:Int)=0) with
 | true =>
   have e:(K1 a)=0:=by simp_all [K1,noI]
   rw [e]
   have e:(noI a)=16:=by simp_all [K1,noI]
   rw [e]
   exact Ang a ha q1
 | false =>
   have e:(K1 a)=(lg a):=by simp_all [K1,noI]
   rw [e]
   have e:(noI a)=0:=by simp_all [K1,noI]
   rw [e]
   exact Anh a ha q1
theorem Axp (b:Nat) (hb:b < 256):Sp P 308 [.pt 0 0,vb b] [.ro (gF)] (.tu [vb (Av 1 b),vi (noI b)]) [.ro (gF)] :=
 so Tryz.f308 3 [.id 0] (.c [.id 0] (Np 1 b (by first | assumption | omega) (by first | assumption | omega)) .nil)
theorem Jd (a:Nat) (h:a < 18446744073709551616):Sp P 196 [vu a] [] (vn (wt a)) [] :=
 so Tryz.f196 3 [] (.lp (wt a) 1 [] [] (fun i=>[(0,vu (Hf a i)),(3,vn i)]) (fun i=>[]) (fun i hi=>(.t (congrArg (!·) (sQF (((Hf a i:Nat):Int)=0) (by have:=Ss hi; omega))) (.e 8 (Az1 (Hf a i) (Ss hi) (Nat.lt_of_le_of_lt (Kn a i) h)) (.e 9 (A2l (Hf a i) (Hf a i - 1) (Nat.lt_of_le_of_lt (Kn a i) h) (Nat.lt_of_le_of_lt (Nat.sub_le _ _) (Nat.lt_of_le_of_lt (Kn a i) h))) (.e 11 (Ck (a:=(i:Int)) (b:=1) (c:=((i + 1:Nat):Int)) (by have:=A1z (n:=64) h; omega)) .nil))))) (.t (congrArg (!·) (sQT (((Hf a (wt a):Nat):Int)=0) (by rw [Ws]; rfl))) .nil))
theorem Aai (a:Nat) (h:a < 4294967296):Sp P 216 [vw a] [] (vn (wt a)) [] :=
 so Tryz.f216 3 [] (.lp (wt a) 1 [] [] (fun i=>[(0,vw (Hf a i)),(3,vn i)]) (fun i=>[]) (fun i hi=>(.t (congrArg (!·) (sQF (((Hf a i:Nat):Int)=0) (by have:=Ss hi; omega))) (.e 8 (Az0 (Hf a i) (Ss hi) (Nat.lt_of_le_of_lt (Kn a i) h)) (.e 9 (Ah9 (Hf a i) (Hf a i - 1) (Nat.lt_of_le_of_lt (Kn a i) h) (Nat.lt_of_le_of_lt (Nat.sub_le _ _) (Nat.lt_of_le_of_lt (Kn a i) h))) (.e 11 (Ck (a:=(i:Int)) (b:=1) (c:=((i + 1:Nat):Int)) (by have:=A1z (n:=32) h; omega)) .nil))))) (.t (congrArg (!·) (sQT (((Hf a (wt a):Nat):Int)=0) (by rw [Ws]; rfl))) .nil))
theorem A1l (a:Nat) (h:a < 256):Sp P 305 [vb a] [] (vn (wt a)) [] :=
 so Tryz.f305 3 [] (.lp (wt a) 1 [] [] (fun i=>[(0,vb (Hf a i)),(3,vn i)]) (fun i=>[]) (fun i hi=>(.t (congrArg (!·) (sQF (((Hf a i:Nat):Int)=0) (by have:=Ss hi; omega))) (.e 8 (B1e (Hf a i) (Ss hi) (Nat.lt_of_le_of_lt (Kn a i) h)) (.e 9 (Aju (Hf a i) (Hf a i - 1) (Nat.lt_of_le_of_lt (Kn a i) h) (Nat.lt_of_le_of_lt (Nat.sub_le _ _) (Nat.lt_of_le_of_lt (Kn a i) h))) (.e 11 (Ck (a:=(i:Int)) (b:=1) (c:=((i + 1:Nat):Int)) (by have:=A1z (n:=8) h; omega)) .nil))))) (.t (congrArg (!·) (sQT (((Hf a (wt a):Nat):Int)=0) (by rw [Ws]; rfl))) .nil))
theorem Ayg (a:Nat) (h:a < 4294967296):Value.int .i64 (bits .and .i64 ((wt a:Nat):Int) 1)=.int .i64 ((wt a % 2:Nat):Int):=by
 have hw:=A1z (n:=32) h
 have key:∀ a:_root_.Fin 33,bits .and .i64 (a.1:Int) 1=((a.1 % 2:Nat):Int):=by decide +kernel
 rw [key ⟨wt a,by omega⟩]
theorem Aiu (a:Nat) (h:a < 4294967296):Sp P 161 [vw a] [] (vn (wt a % 2)) [] :=
 so Tryz.f161 3 [] (.c [] (Aai a (by first | assumption | omega)) (.e 5 (Ayg a h) .nil))
theorem Aaj  :Sp P 277 [] [] (vn 8) [] :=
 so Tryz.f277 3 [] (.c [] (A1l 255 (by decide)) .nil)
theorem A5h (c:Nat->Int) (b:Nat->Int) (i:Nat) (x:Nat) (hi:i < 74) (hx:x < 256):Sp P 239 [.pt 0 0,vn i,vb x] [.blk [.ar .u8 74 c,.ar .i64 256 b] 357] (.tu []) [.blk [.ar .u8 74 (upI c i (x:Int)),.ar .i64 256 (upI b x (i:Int))] 357] :=
 so Tryz.f239 4 [.id 0] (.ix (i:=i) (m:=74) hi (.lt (i:=i) (n:=74) hi (.ix (i:=x) (m:=256) hx (.lt (i:=x) (n:=256) hx .nil))))
def at0:Nat->Nat->Int
 | 0=>fun _=>0
 | i + 1=>upI (at0 i) i (-1)
def h1c:Nat->Nat->Int
 | 0=>fun _=>0
 | i + 1=>upI (h1c i) (64 + i) ((2 ^ i:Nat):Int)
def h1a:Nat->Nat->Int
 | 0=>at0 256
 | i + 1=>upI (h1a i) (2 ^ i) ((64 + i:Nat):Int)
def q3 (i:Nat):Bool:=decide (((wt i:Nat):Int)=3)
def h3n:Nat->Nat
 | 0=>0
 | i + 1=>bif q3 i then h3n i + 1 else h3n i
def h3c:Nat->Nat->Int
 | 0=>h1c 8
 | i + 1=>bif q3 i then upI (h3c i) (h3n i) (i:Int) else h3c i
def h3a:Nat->Nat->Int
 | 0=>h1a 8
 | i + 1=>bif q3 i then upI (h3a i) i ((h3n i:Nat):Int) else h3a i
theorem Amh {i:Nat} (h:i<=256):h3n i<=56:=by
 have key:∀ i:_root_.Fin 257,h3n i.1<=56:=by decide +kernel
 exact key ⟨i,by omega⟩
def q5 (i:Nat):Bool:=decide (((wt i:Nat):Int)=5)
def h5j (n:Nat):Nat:=bif decide ((n:Int)=64) then 72 else n
def h5n:Nat->Nat
 | 0=>h3n 256
 | i + 1=>bif q5 i then h5j (h5n i) + 1 else h5n i
def h5c:Nat->Nat->Int
 | 0=>h3c 256
 | i + 1=>bif q5 i then upI (h5c i) (h5j (h5n i)) (i:Int) else h5c i
def h5a:Nat->Nat->Int
 | 0=>h3a 256
 | i + 1=>bif q5 i then upI (h5a i) i ((h5j (h5n i):Nat):Int) else h5a i
theorem Ami {i:Nat} (h:i < 94):q5 i=true->h5j (h5n i) < 74:=by
 have key:∀ i:_root_.Fin 94,q5 i.1=true->h5j (h5n i.1) < 74:=by decide +kernel
 exact key ⟨i,h⟩
theorem B1d {i:Nat} (h:i < 8):2 ^ i < 256:=by
 have key:∀ i:_root_.Fin 8,2 ^ i.1 < 256:=by decide
 exact key ⟨i,h⟩
theorem B2c (i:Nat) (h:i < 8):Value.int .u8 (IntKind.u8.wrap (1 * 2 ^ (min (IntKind.u64.wrap (i:Int)).toNat 8)))=.int .u8 ((2 ^ i:Nat):Int):=by
 have key:∀ i:_root_.Fin 8,IntKind.u8.wrap (1 * 2 ^ (min (IntKind.u64.wrap (i.1:Int)).toNat 8))=((2 ^ i.1:Nat):Int):=by decide +kernel
 rw [key ⟨i,h⟩]
theorem cv8 (i:Nat) (h:i < 256):Value.int .u8 (IntKind.u8.wrap (i:Int))=.int .u8 (i:Int):=by rw [w8 h]
theorem A2n (n:Nat) (k:Nat) :Sp P 240 [vn n,vn k] [] (.fn (.func 276) [] [.pt 1 0,.pt 0 0]) [.blk [vn n] 3,.blk [vn k] 3] :=
 so Tryz.f240 4 [.id 1,.id 2] .nil
theorem Amj  :Sp P 186 [] [] (.pt 0 0) [.blk [.ar .u8 74 (h5c 94),.ar .i64 256 (h5a 94)] 357] :=
 so Tryz.f186 17 [.id 1] (.lp 256 3 [] [] (fun i=>[(9,vn i)]) (fun i=>[(1,.blk [.ar .u8 74 (fun _=>0),.ar .i64 256 (at0 i)] 357)]) (fun i hi=>(.t (sQT ((i:Int) < 256) (by omega)) (.ix (i:=i) (m:=256) hi (.lt (i:=i) (n:=256) hi (.e 17 (Ck (a:=(i:Int)) (b:=1) (c:=((i + 1:Nat):Int)) (by omega)) .nil))))) (.n (.lp 8 3 [] [] (fun i=>[(18,vn i)]) (fun i=>[(1,.blk [.ar .u8 74 (h1c i),.ar .i64 256 (h1a i)] 357)]) (fun i hi=>(.t (sQT ((i:Int) < 8) (by omega)) (.e 23 (Ck (a:=64) (b:=(i:Int)) (c:=((64 + i:Nat):Int)) (by omega)) (.e 26 (B2c i (by omega)) (.c [.id 1] (A5h (h1c i) (h1a i) (64 + i) (2 ^ i) (by first | assumption | omega) (B1d hi)) (.e 28 (Ck (a:=(i:Int)) (b:=1) (c:=((i + 1:Nat):Int)) (by omega)) .nil)))))) (.n (.c [] (A2n 8 3) (.n4 (.n2 (.c [] (Aaj) (.n4 (.lp 256 9 [] [] (fun i=>[(21,vu i)]) (fun i=>[(1,.blk [.ar .u8 74 (h3c i),.ar .i64 256 (h3a i)] 357),(3,.blk [vn (h3n i)] 3),(6,.lo .ready none)]) (fun i hi=>(.t (sQT ((i:Int) < 256) (by omega)) (.cs 2 (decide (((wt i:Nat):Int)=3)) 9 [] [] (fun z=>[(4,vu i),(23,vu i),(24,vu i),(25,vn (wt i)),(26,vn 3),(27,vt (decide (((wt i:Nat):Int)=3))),(28,vt (decide (((wt i:Nat):Int)=3))),(34,vt false)]) (fun z=>[(1,.blk [.ar .u8 74 (bif z then (upI (h3c i) (h3n i) (i:Int)) else (h3c i)),.ar .i64 256 (bif z then (upI (h3a i) i (((h3n i):Nat):Int)) else (h3a i))] 357),(3,.blk [vn (bif z then ((h3n i) + 1) else (h3n i))] 3),(6,.lo .ready none)]) (fun hq1=>(.c [] (Jd i (by first | assumption | omega)) (.t2 hq1 (.t hq1 (.e 31 (cv8 i (by omega)) (.t hq1 (.c [.id 1] (A5h (h3c i) (h3a i) (h3n i) i (by have:=Amh (i:=i) (by omega); omega) (by first | assumption | omega)) (.e 36 (Ck (a:=((h3n i:Nat):Int)) (b:=1) (c:=(((h3n i) + 1:Nat):Int)) (by have:=Amh (i:=i) (by omega); omega)) (.t2 hq1 (.n .nil)))))))))) (fun hq1=>(.c [] (Jd i (by first | assumption | omega)) (.t2 hq1 (.t2 hq1 (.t2 hq1 (.n .nil)))))) (.e 35 (Aq5 i 1 (by omega)) .nil)))) (.n (.c [] (A2n 8 5) (.n4 (.n2 (.c [] (Aaj) (.n4 (.lp 94 14 [] [] (fun i=>[(21,vu i)]) (fun i=>[(1,.blk [.ar .u8 74 (h5c i),.ar .i64 256 (h5a i)] 357),(3,.blk [vn (h5n i)] 3),(11,.lo .ready none)]) (fun i hi=>(.t (sQT ((i:Int) < 256) (by omega)) (.cs 2 (decide (((wt i:Nat):Int)=5)) 14 [] [] (fun z=>[(4,vu i),(23,vu i),(24,vu i),(25,vn (wt i)),(26,vn 5),(27,vt (decide (((wt i:Nat):Int)=5))),(28,vt (decide (((wt i:Nat):Int)=5))),(34,vt false)]) (fun z=>[(1,.blk [.ar .u8 74 (bif z then (upI (h5c i) (bif (decide (((h5n i:Nat):Int)=64)) then 72 else (h5n i)) (i:Int)) else (h5c i)),.ar .i64 256 (bif z then (upI (h5a i) i (((bif (decide (((h5n i:Nat):Int)=64)) then 72 else (h5n i)):Nat):Int)) else (h5a i))] 357),(3,.blk [vn (bif z then ((bif (decide (((h5n i:Nat):Int)=64)) then 72 else (h5n i)) + 1) else (h5n i))] 3),(11,.lo .ready none)]) (fun hq1=>(.c [] (Jd i (by first | assumption | omega)) (.t2 hq1 (.t hq1 (.e 31 (cv8 i (by omega)) (.t hq1 (.cs 0 (decide (((h5n i:Nat):Int)=64)) 15 [] [] (fun z=>[]) (fun z=>[(3,.blk [vn (bif z then 72 else (h5n i))] 3),(11,.lo .busy none)]) (fun hq2=>(.t hq2 .nil)) (fun hq2=>(.t hq2 .nil)) (.t (sQF (((bif (decide (((h5n i:Nat):Int)=64)) then 72 else (h5n i):Nat):Int)=74) (by have:=Ami hi hq1; unfold h5j at this; omega)) (.c [.id 1] (A5h (h5c i) (h5a i) (bif (decide (((h5n i:Nat):Int)=64)) then 72 else (h5n i)) i (by have:=Ami hi hq1; unfold h5j at this; omega) (by first | assumption | omega)) (.e 48 (Ck (a:=((bif (decide (((h5n i:Nat):Int)=64)) then 72 else (h5n i):Nat):Int)) (b:=1) (c:=(((bif (decide (((h5n i:Nat):Int)=64)) then 72 else (h5n i)) + 1:Nat):Int)) (by have:=Ami hi hq1; unfold h5j at this; omega)) (.t2 hq1 (.n .nil)))))))))))) (fun hq1=>(.c [] (Jd i (by first | assumption | omega)) (.t2 hq1 (.t2 hq1 (.t2 hq1 (.n .nil)))))) (.e 35 (Aq5 i 1 (by omega)) .nil)))) (.y (.c [] (Jd 94 (by first | assumption | omega)) (.t4 (sQT (((wt 94:Nat):Int)=5) (by decide +kernel)) (.t (sQF (((h5n 94:Nat):Int)=64) (by decide +kernel)) (.t (sQT (((h5n 94:Nat):Int)=74) (by decide +kernel)) (.t2 (sQT (((wt 94:Nat):Int)=5) (by decide +kernel)) (.y .nil))))))))))))))))))))))))
def Gr (j:Nat):Nat:=(5911073172012725484092618657723262832664954745514448157994389638002641846240736953853080237825029422181614702873248557227874112659003188383670735037217950857422651111138566933255 >>> (8 * j)) % 256
def atF (j:Nat):Int:=(((15629326251159733078838069739411644082774834654327814373300440451280187183611477476812505312469943809358571297003010355045765626695266115688146549001139440135084082291760802442227039547069613044856610091637057525603929157985075951283946815393159994284017784694257391980209344356560435103431014075795826555508795219264216367861277861906521085451337183225246504263778248913657119722256471905034847775643956497499126610668291865597843631763185373963899346431767092297714797936379423336389172923572956602176912673356923049501097609433820134785280 >>> (8 * j)) % 256:Nat):Int) - 1
theorem Rk (j:Nat):Gr j < 256:=Nat.mod_lt _ (by decide)
theorem Awe:∀ j:_root_.Fin 74,h5c 94 j.1=nf Gr j.1:=by decide +kernel
theorem Azf:∀ j:_root_.Fin 256,h5a 94 j.1=atF j.1:=by decide +kernel
abbrev hC:B:=.blk [.ar .u8 74 (nf Gr),.ar .i64 256 atF] 357
theorem Asg:Sp P 186 [] [] (.pt 0 0) [hC] :=
 Sp.cells Amj 0 (l':=[.ar .u8 74 (nf Gr),.ar .i64 256 (atF)]) rfl (by
  simp only [V.flat,V.den]
  rw [Jj 74 0 (k:=.u8) (f:=h5c 94) (h:=nf Gr) (fun j _ h=>Awe ⟨j,by omega⟩),Jj 256 0 (k:=.i64) (f:=h5a 94) (h:=atF) (fun j _ h=>Azf ⟨j,by omega⟩)]) rfl rfl rfl
def hv (d:Nat):Nat->Nat
 | 0=>d
 | i + 1=>hv d i / 2
theorem X6 (d:Nat):∀ i,hv d i=d / 2 ^ i
 | 0=>by rw [hv,Nat.pow_zero,Nat.div_one]
 | i + 1=>by rw [hv,X6 d i,Nat.pow_succ,← Nat.div_div_eq_div_mul]
theorem Aff {d m:Nat} (h:d < m) (i:Nat):hv d i < m:=by rw [X6]; exact Asf h
theorem Auq {d i:Nat} (h:i < bl d):hv d i ≠ 0:=by rw [X6]; exact Au8 h
theorem Amk (d:Nat):hv d (bl d)=0:=by rw [X6]; exact Aao d
def chF (d:Nat):Nat->Nat
 | 0=>0
 | i + 1=>bif decide (((hv d i % 2:Nat):Int)=1) then xr (chF d i) (Gr i) else chF d i
theorem Vo (d:Nat):∀ i,chF d i < 256
 | 0=>(by decide:(0:Nat) < 256)
 | i + 1=>by
   rw [chF]
   cases decide (((hv d i % 2:Nat):Int)=1)
   ·exact Vo d i
   ·exact I5 (Vo d i) (Rk i)
theorem Asu (a:Nat) (h:a < 2):Value.int .i64 (bits .and .i64 (a:Int) 1)=.int .i64 (a:Int):=by
 have key:∀ a:_root_.Fin 2,bits .and .i64 (a.1:Int) 1=(a.1:Int):=by decide +kernel
 rw [key ⟨a,h⟩]
def chA (d a:Nat):Nat:=bif decide ((a:Int)=1) then xr (chF d (bl d)) (Gr 72) else chF d (bl d)
theorem Aar (d a:Nat):chA d a < 256:=by
 unfold chA
 cases decide ((a:Int)=1)
 ·exact Vo d _
 ·exact I5 (Vo d _) (Rk _)
def chk (d a q:Nat):Nat:=bif decide ((q:Int)=1) then xr (chA d a) (Gr 73) else chA d a
theorem Aay (d a q:Nat):chk d a q < 256:=by
 unfold chk
 cases decide ((q:Int)=1)
 ·exact Aar d a
 ·exact I5 (Aar d a) (Rk _)
def syn (d a q c:Nat):Nat:=xr (chk d a q) c
theorem A1d {d a q c:Nat} (h:c < 256):syn d a q c < 256:=I5 (Aay d a q) h
def C6 (s:Nat):Int:=if s=0 then 0 else if atF s=-1 then 4 else if atF s=72 then 3 else if atF s=73 then 2 else 1
def Cg (s:Nat):Int:=if s=0 then -1 else if atF s=-1 then -1 else if atF s=72 then -1 else if atF s=73 then -1 else atF s
theorem A3w {s:Nat} (h:s < 256):C6 s=1->0<=Cg s/\Cg s < 72:=by
 revert h
 exact fun h=>Av4 (q:=fun s=>C6 s=1->0<=Cg s/\Cg s < 72) (by decide +kernel) h
theorem B1a {x:Int} (h0:0<=x) (h:x < 64):Value.int .u64 (IntKind.u64.wrap x)=.int .u64 (x.toNat:Int):=by
 obtain ⟨n,rfl⟩:=Int.eq_ofNat_of_zero_le h0
 rw [Aah (by omega)]; rfl
theorem B10 (n:Nat) (h:n < 64):Value.int .u64 (IntKind.u64.wrap (1 * 2 ^ (min (n:Int).toNat 64)))=.int .u64 ((2 ^ n:Nat):Int):=by
 have key:∀ i:_root_.Fin 64,IntKind.u64.wrap (1 * 2 ^ (min (i.1:Int).toNat 64))=((2 ^ i.1:Nat):Int):=by decide +kernel
 exact congrArg _ (key ⟨n,h⟩)
def O6 (d c a:Nat):Nat:=if C6 (syn d a 0 c)=1 then if Cg (syn d a 0 c) < 64 then d ^^^ 2 ^ (Cg (syn d a 0 c)).toNat else d else d
theorem A3f (x:Nat) :Sp P 127 [vu x] [] (.fn (.func 199) [] [.pt 0 0]) [.blk [vu x] 44] :=
 so Tryz.f127 3 [.id 1] .nil
theorem Jm (d:Nat) (a:Nat) (q:Nat) (hd:d < 18446744073709551616) (ha:a < 2) (hq:q < 2):Sp P 249 [.pt 0 0,vu d,vn a,vn q] [.ro (hC)] (vb (chk d a q)) [.ro (hC)] :=
 so Tryz.f249 8 [.id 0] (.c [] (A3f d) (.lp (bl d) 7 [] [] (fun i=>[(3,vn i)]) (fun i=>[(3,.blk [vb (chF d i)] 5),(4,.blk [vu (hv d i)] 44),(5,.lo .ready none)]) (fun i hi=>(.t (congrArg (!·) (sQF (((hv d i:Nat):Int)=0) (by have:=Auq hi; omega))) (.cs 2 (decide (((hv d i % 2:Nat):Int)=1)) 7 [] [] (fun z=>[(8,vu (hv d i)),(9,vu (hv d i % 2)),(10,vt (decide (((hv d i % 2:Nat):Int)=1))),(11,vt (decide (((hv d i % 2:Nat):Int)=1))),(16,vt false),(17,vu (hv d i)),(18,vu (hv d (i + 1)))]) (fun z=>[(3,.blk [vb (bif z then (xr (chF d i) (Gr i)) else (chF d i))] 5),(4,.blk [vu (hv d (i + 1))] 44),(5,.lo .ready none)]) (fun hq1=>(.e 9 (A70 (hv d i) (Aff hd i)) (.t2 hq1 (.t hq1 (.ix (i:=i) (m:=74) (by have:=Tm (n:=64) hd; omega) (.lt (i:=i) (n:=74) (by have:=Tm (n:=64) hd; omega) (.e 21 (Yt (chF d i) (Gr i) (Vo d i) (Rk i)) (.t2 hq1 (.n (.e 18 (Yo (hv d i)) .nil)))))))))) (fun hq1=>(.e 9 (A70 (hv d i) (Aff hd i)) (.t2 hq1 (.t2 hq1 (.t hq1 (.n (.e 18 (Yo (hv d i)) .nil))))))) (.e 7 (Ck (a:=(i:Int)) (b:=1) (c:=((i + 1:Nat):Int)) (by have:=Tm (n:=64) hd; omega)) .nil)))) (.t (congrArg (!·) (sQT (((hv d (bl d):Nat):Int)=0) (by rw [Amk]; rfl))) (.e 23 (Asu a ha) (.cs 0 (decide ((a:Int)=1)) 7 [] [] (fun z=>[]) (fun z=>[(3,.blk [vb (bif z then (xr (chF d (bl d)) (Gr 72)) else (chF d (bl d)))] 5)]) (fun hq1=>(.t hq1 (.e 31 (Yt (chF d (bl d)) (Gr 72) (Vo d _) (Rk _)) .nil))) (fun hq1=>(.t hq1 .nil)) (.e 33 (Asu q hq) (.cs 0 (decide ((q:Int)=1)) 7 [] [] (fun z=>[]) (fun z=>[(3,.blk [vb (bif z then (xr (chA d a) (Gr 73)) else (bif (decide ((a:Int)=1)) then (xr (chF d (bl d)) (Gr 72)) else (chF d (bl d))))] 5)]) (fun hq1=>(.t hq1 (.e 41 (Yt (chA d a) (Gr 73) (Aar d a) (Rk _)) .nil))) (fun hq1=>(.t hq1 .nil)) .nil)))))))
theorem Rb (d:Nat) (c:Nat) (a:Nat) (q:Nat) (hd:d < 18446744073709551616) (ha:a < 2) (hq:q < 2) (hc:c < 256):Sp P 332 [.pt 0 0,vu d,vb c,vn a,vn q] [.ro (hC)] (vb (syn d a q c)) [.ro (hC)] :=
 so Tryz.f332 3 [.id 0] (.c [.id 0] (Jm d a q (by first | assumption | omega) (by first | assumption | omega) (by first | assumption | omega)) (.e 17 (Yt (chk d a q) c (Aay _ _ _) hc) .nil))
theorem A25 (s:Nat) (hs:s < 256) (q1:(decide ((s:Int)=0))=true):Sp P 331 [.pt 0 0,vb s] [.ro (hC)] (.tu [vn 0,vi (-1)]) [.ro (hC)] :=
 so Tryz.f331 3 [.id 0] (.t q1 .nil)
theorem A26 (s:Nat) (hs:s < 256) (q1:(decide ((s:Int)=0))=false) (q2:(decide (atF s=-1))=true):Sp P 331 [.pt 0 0,vb s] [.ro (hC)] (.tu [vn 4,vi (-1)]) [.ro (hC)] :=
 so Tryz.f331 3 [.id 0] (.t q1 (.ix (i:=s) (m:=256) hs (.lt (i:=s) (n:=256) hs (.t q2 .nil))))
theorem A27 (s:Nat) (hs:s < 256) (q1:(decide ((s:Int)=0))=false) (q2:(decide (atF s=-1))=false) (q3:(decide (atF s=72))=true):Sp P 331 [.pt 0 0,vb s] [.ro (hC)] (.tu [vn 3,vi (-1)]) [.ro (hC)] :=
 so Tryz.f331 3 [.id 0] (.t q1 (.ix (i:=s) (m:=256) hs (.lt (i:=s) (n:=256) hs (.t q2 (.t q3 .nil)))))
theorem A28 (s:Nat) (hs:s < 256) (q1:(decide ((s:Int)=0))=false) (q2:(decide (atF s=-1))=false) (q3:(decide (atF s=72))=false) (q4:(decide (atF s=73))=true):Sp P 331 [.pt 0 0,vb s] [.ro (hC)] (.tu [vn 2,vi (-1)]) [.ro (hC)] :=
 so Tryz.f331 3 [.id 0] (.t q1 (.ix (i:=s) (m:=256) hs (.lt (i:=s) (n:=256) hs (.t q2 (.t q3 (.t q4 .nil))))))
theorem A29 (s:Nat) (hs:s < 256) (q1:(decide ((s:Int)=0))=false) (q2:(decide (atF s=-1))=false) (q3:(decide (atF s=72))=false) (q4:(decide (atF s=73))=false):Sp P 331 [.pt 0 0,vb s] [.ro (hC)] (.tu [vn 1,vi (atF s)]) [.ro (hC)] :=
 so Tryz.f331 3 [.id 0] (.t q1 (.ix (i:=s) (m:=256) hs (.lt (i:=s) (n:=256) hs (.t q2 (.t q3 (.t q4 .nil))))))
theorem Q4 (s:Nat) (hs:s < 256):Sp P 331 [.pt 0 0,vb s] [.ro (hC)] (.tu [vi (C6 s),vi (Cg s)]) [.ro (hC)]:=by
 cases q1:decide ((s:Int)=0) with
 | true =>
   have e:(C6 s)=0:=by simp_all [C6,Cg]; try omega
   rw [e]
   have e:(Cg s)=(-1):=by simp_all [C6,Cg]; try omega
   rw [e]
   exact A25 s hs q1
 | false =>
   cases q2:decide (atF s=-1) with
   | true =>
     have e:(C6 s)=4:=by simp_all [C6,Cg]; try omega
     rw [e]
     have e:(Cg s)=(-1):=by simp_all [C6,Cg]; try omega
     rw [e]
     exact A26 s hs q1 q2
   | false =>
     cases q3:decide (atF s=72) with
     | true =>
       have e:(C6 s)=3:=by simp_all [C6,Cg]; try omega
       rw [e]
       have e:(Cg s)=(-1):=by simp_all [C6,Cg]; try omega
       rw [e]
       exact A27 s hs q1 q2 q3
     | false =>
       cases q4:decide (atF s=73) with
       | true =>
         have e:(C6 s)=2:=by simp_all [C6,Cg]; try omega
         rw [e]
         have e:(Cg s)=(-1):=by simp_all [C6,Cg]; try omega
         rw [e]
         exact A28 s hs q1 q2 q3 q4
       | false =>
         have e:(C6 s)=1:=by simp_all [C6,Cg]; try omega
         rw [e]
         have e:(Cg s)=(atF s):=by simp_all [C6,Cg]; try omega
         rw [e]
         exact A29 s hs q1 q2 q3 q4
theorem A5e (d:Nat) (c:Nat) (a:Nat) (hd:d < 18446744073709551616) (hc:c < 256) (ha:a < 2) (q1:(decide (C6 (syn d a 0 c)=1))=true) (q2:(decide (Cg (syn d a 0 c) < 64))=true):Sp P 312 [.pt 0 0,vu d,vb c,vn a] [.ro (hC)] (.tu [vu (d ^^^ 2 ^ (Cg (syn d a 0 c)).toNat),vi (C6 (syn d a 0 c)),vi (Cg (syn d a 0 c))]) [.ro (hC)] :=
 so Tryz.f312 3 [.id 0] (.c [.id 0] (Rb d c a 0 (by first | assumption | omega) (by first | assumption | omega) (by decide) (by first | assumption | omega)) (.c [.id 0] (Q4 (syn d a 0 c) (A1d hc)) (.t2 q1 (.t q1 (.t q2 (.e 29 (B1a (A3w (A1d hc) (otq q1)).1 (otq q2)) (.e 30 (B10 (Cg (syn d a 0 c)).toNat (by have h2:=otq q2; omega)) (.e 31 (Aha d (2 ^ (Cg (syn d a 0 c)).toNat) hd (Nat.pow_lt_pow_right (a:=2) (n:=64) (by decide) (by have h1:=A3w (A1d hc) (otq q1); have h2:=otq q2; omega))) .nil))))))))
theorem A5f (d:Nat) (c:Nat) (a:Nat) (hd:d < 18446744073709551616) (hc:c < 256) (ha:a < 2) (q1:(decide (C6 (syn d a 0 c)=1))=true) (q2:(decide (Cg (syn d a 0 c) < 64))=false):Sp P 312 [.pt 0 0,vu d,vb c,vn a] [.ro (hC)] (.tu [vu d,vi (C6 (syn d a 0 c)),vi (Cg (syn d a 0 c))]) [.ro (hC)] :=
 so Tryz.f312 3 [.id 0] (.c [.id 0] (Rb d c a 0 (by first | assumption | omega) (by first | assumption | omega) (by decide) (by first | assumption | omega)) (.c [.id 0] (Q4 (syn d a 0 c) (A1d hc)) (.t2 q1 (.t q1 (.t q2 .nil)))))
theorem A5g (d:Nat) (c:Nat) (a:Nat) (hd:d < 18446744073709551616) (hc:c < 256) (ha:a < 2) (q1:(decide (C6 (syn d a 0 c)=1))=false):Sp P 312 [.pt 0 0,vu d,vb c,vn a] [.ro (hC)] (.tu [vu d,vi (C6 (syn d a 0 c)),vi (Cg (syn d a 0 c))]) [.ro (hC)] :=
 so Tryz.f312 3 [.id 0] (.c [.id 0] (Rb d c a 0 (by first | assumption | omega) (by first | assumption | omega) (by decide) (by first | assumption | omega)) (.c [.id 0] (Q4 (syn d a 0 c) (A1d hc)) (.t2 q1 (.t q1 (.n .nil)))))
theorem P6 (d:Nat) (c:Nat) (a:Nat) (hd:d < 18446744073709551616) (hc:c < 256) (ha:a < 2):Sp P 312 [.pt 0 0,vu d,vb c,vn a] [.ro (hC)] (.tu [vu (O6 d c a),vi (C6 (syn d a 0 c)),vi (Cg (syn d a 0 c))]) [.ro (hC)]:=by
 cases q1:decide (C6 (syn d a 0 c)=1) with
 | true =>
   cases q2:decide (Cg (syn d a 0 c) < 64) with
   | true =>
     have e:(O6 d c a)=(d ^^^ 2 ^ (Cg (syn d a 0 c)).toNat):=by simp_all [O6]; try omega
     rw [e]
     exact A5e d c a hd hc ha q1 q2
   | false =>
     have e:(O6 d c a)=d:=by simp_all [O6]; try omega
     rw [e]
     exact A5f d c a hd hc ha q1 q2
 | false =>
   have e:(O6 d c a)=d:=by simp_all [O6]; try omega
   rw [e]
   exact A5g d c a hd hc ha q1
