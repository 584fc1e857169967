import Derived.Test.YtfhiggfmkjmeiaaGreatFRun
set_option linter.all false
namespace Go.Proofs.YtfhiggfmkjmeiaaGreat
open Go Go.RowKit
theorem Ad {α:Type} {p:α->Prop} {c:Bool} {a b:α} (ha:p a) (hb:p b):p (bif c then a else b):=by cases c <;> assumption
theorem Awf (s:CtlS) (i:Int) (l:Nat->Nat) (b:Bool):(As s i l b).notes=s.notes/\(As s i l b).le=s.le:=by
 unfold As
 exact Ad (p:=fun t:CtlS=>t.notes=s.notes/\t.le=s.le) ⟨rfl,rfl⟩ ⟨rfl,rfl⟩
theorem Ab3 (c:Cfg):(Lh c).notes=[]/\(Lh c).le=Iw c:=by
 let p:=fun (s t:CtlS)=>t.notes=s.notes/\t.le=s.le
 have tr:∀ {a b d},p a b->p b d->p a d:=fun h k=>⟨k.1.trans h.1,k.2.trans h.2⟩
 have h1:∀ s r b w k,p s (nwC s r b w k):=fun s r b w k=>by induction k with | zero=>exact ⟨rfl,rfl⟩ | succ k ih=>exact tr ih (Awf _ _ _ _)
 have h2:∀ s r b C w,p s (nwW s r b C w):=fun s r b C w=>by induction w with | zero=>exact ⟨rfl,rfl⟩ | succ w ih=>exact tr ih (h1 _ _ _ _ _)
 have h3:∀ s r W C b,p s (nwB s r W C b):=fun s r W C b=>by induction b with | zero=>exact ⟨rfl,rfl⟩ | succ b ih=>exact tr ih (h2 _ _ _ _ _)
 have h4:∀ s B W C r,p s (nwR s B W C r):=fun s B W C r=>by induction r with | zero=>exact ⟨rfl,rfl⟩ | succ r ih=>exact tr ih (h3 _ _ _ _ _)
 exact h4 _ _ _ _ _
theorem Ca {x:Int} (h:0<=x/\x<=1000000000):IntKind.i64.wrap x=x:=D1 (by omega) (by omega)
theorem Kv {g:Gm} (h:g.right=true) {p:Pl} (a:0<=p.rank/\p.rank < g.ranks + g.spares) (b:0<=p.bank/\p.bank < g.banks) (c:0<=p.row/\p.row < g.rows) (d:0<=p.col/\p.col < g.cols):g.holds p=true:=by
 have hg:=Gm.rt h
 unfold Gm.holds K7
 rw [Ca (x:=g.ranks + g.spares) (by omega),h]
 simp only [bq,decide_eq_true_eq,true_and]
 exact ⟨a,b,c,d⟩
theorem U7 {g:Gm} {p:Pl} (h:g.holds p=true):g.right=true/\(0<=p.rank/\p.rank < g.ranks + g.spares)/\(0<=p.bank/\p.bank < g.banks)/\(0<=p.row/\p.row < g.rows)/\(0<=p.col/\p.col < g.cols):=by
 unfold Gm.holds K7 at h
 simp only [bq,decide_eq_true_eq] at h
 have hg:=Gm.rt h.1
 rw [Ca (x:=g.ranks + g.spares) (by omega)] at h
 exact h
theorem Amo {g:Gm} {p:Pl} (h:g.holds p=true):g.ixE p=0:=by unfold Gm.ixE; rw [h]; rfl
theorem B1j:∀ (k:_root_.Fin 5) (x:_root_.Fin 1024),bits .and .i64 ((x.1:Nat):Int) (IntKind.i64.wrap ((2:Int) ^ k.1 - 1))=((x.1 % 2 ^ k.1:Nat):Int):=by decide +kernel
theorem B2k:∀ (k:_root_.Fin 5) (x y:_root_.Fin 16),x.1 < 2 ^ k.1->y.1 < 2 ^ k.1->bits .xor .i64 ((x.1:Nat):Int) ((y.1:Nat):Int)=((x.1 ^^^ y.1:Nat):Int)/\x.1 ^^^ y.1 < 2 ^ k.1:=by decide +kernel
theorem B29:∀ n:_root_.Fin 17,H9 ((n.1:Nat):Int) 16=true->∃ k:_root_.Fin 5,((n.1:Nat):Int)=2 ^ k.1:=by decide +kernel
theorem B0m {n:Int} (h:H9 n 16=true):∃ k:_root_.Fin 5,n=2 ^ k.1:=by
 have hb:=A0y h
 have h1:((n.toNat:Nat):Int)=n:=by omega
 obtain ⟨k,hk⟩:=B29 ⟨n.toNat,by omega⟩ (by rw [h1]; exact h)
 exact ⟨k,by rw [← h1]; exact hk⟩
theorem Ais {n a b:Int} (hn:H9 n 16=true) (ha:0<=a/\a < n) (hb:0<=b/\b < 1024):∃ x y:Nat,a=((x:Nat):Int)/\bits .xor .i64 a (bits .and .i64 b (IntKind.i64.wrap (n - 1)))=(((x ^^^ y:Nat)):Int)/\((x ^^^ y:Nat):Int) < n/\y=(b % n).toNat:=by
 obtain ⟨k,rfl⟩:=B0m hn
 have h1:=B1j k ⟨b.toNat,by omega⟩
 simp only at h1
 rw [show ((b.toNat:Nat):Int)=b by omega] at h1
 have hk:2 ^ k.1<=16:=by have:=k.2; exact Nat.le_trans (Nat.pow_le_pow_right (by decide) (show k.1<=4 by omega)) (by decide)
 have hk0:0 < 2 ^ k.1:=Nat.pos_of_ne_zero (by simp)
 have hm:b.toNat % 2 ^ k.1 < 2 ^ k.1:=Nat.mod_lt _ hk0
 have ha2:a.toNat < 2 ^ k.1:=by
  have:((2 ^ k.1:Nat):Int)=(2:Int) ^ k.1:=by simp
  omega
 have h2:=B2k k ⟨a.toNat,by omega⟩ ⟨b.toNat % 2 ^ k.1,by omega⟩ ha2 hm
 simp only at h2
 rw [show ((a.toNat:Nat):Int)=a by omega] at h2
 refine ⟨a.toNat,b.toNat % 2 ^ k.1,by omega,?_,?_,?_⟩
 ·rw [h1]; exact h2.1
 ·have:((2 ^ k.1:Nat):Int)=(2:Int) ^ k.1:=by simp
  have h3:=h2.2
  omega
 ·have h5:((2 ^ k.1:Nat):Int)=(2:Int) ^ k.1:=by simp
  have:((b.toNat % 2 ^ k.1:Nat):Int)=b % 2 ^ k.1:=by
   rw [Int.natCast_emod,h5,show ((b.toNat:Nat):Int)=b by omega]
  omega
theorem dig {n a b c:Int} (hn:0<=n/\n<=131072) (ha:1<=a) (hb:1<=b) (hc:1<=c) :
 (A3 n a b c).getD 0 eI0=n % a/\(A3 n a b c).getD 1 eI0=n / a % b/\(A3 n a b c).getD 2 eI0=n / a / b % c:=by
 have q1:n.tdiv a=n / a:=Int.tdiv_eq_ediv_of_nonneg hn.1
 have n1:0<=n / a/\n / a<=n:=⟨Int.ediv_nonneg hn.1 (by omega),Int.ediv_le_self _ hn.1⟩
 have q2:(n / a).tdiv b=n / a / b:=Int.tdiv_eq_ediv_of_nonneg n1.1
 have n2:0<=n / a / b/\n / a / b<=n / a:=⟨Int.ediv_nonneg n1.1 (by omega),Int.ediv_le_self _ n1.1⟩
 have w1:IntKind.i64.wrap (n / a)=n / a:=Ca (by omega)
 have w2:IntKind.i64.wrap (n / a / b)=n / a / b:=Ca (by omega)
 refine ⟨?_,?_,?_⟩
 ·show n.tmod a=_
  exact Int.tmod_eq_emod_of_nonneg hn.1
 ·show (IntKind.i64.wrap (n.tdiv a)).tmod b=_
  rw [q1,w1]; exact Int.tmod_eq_emod_of_nonneg n1.1
 ·show (IntKind.i64.wrap ((IntKind.i64.wrap (n.tdiv a)).tdiv b)).tmod c=_
  rw [q1,w1,q2,w2]; exact Int.tmod_eq_emod_of_nonneg n2.1
theorem Fi {n a:Int} (ha:1<=a):0<=n % a/\n % a < a:=⟨Int.emod_nonneg _ (by omega),Int.emod_lt_of_pos _ (by omega)⟩
theorem Gm.pw {g:Gm} (h:g.right=true):H9 g.banks 16=true:=by
 unfold Gm.right at h
 simp only [bq,decide_eq_true_eq] at h
 exact h.2.2.2.1
theorem A8p {g:Gm} {w n:Int} (hi:B7 g w=true) (hg:g.right=true) (hn:0<=n/\n < A9 g):Iq g w n=0:=by
 have hr:=Gm.rt hg
 have hp:=J7 hg
 have hE:∀ r b w:Int,0<=r/\r < g.ranks->0<=b/\b < g.banks->0<=w/\w < g.rows->g.ixE (⟨r,b,w,0⟩:Pl)=0:=fun r b w h1 h2 h3=>Amo (Kv hg (p:=⟨r,b,w,0⟩) ⟨h1.1,by show r < _; omega⟩ h2 h3 ⟨Int.le_refl _,by show (0:Int) < g.cols; omega⟩)
 have hX:∀ b w:Int,0<=b/\b < g.banks->0<=w/\w < g.rows->0<=bits .xor .i64 b (bits .and .i64 w (IntKind.i64.wrap (g.banks - 1)))/\bits .xor .i64 b (bits .and .i64 w (IntKind.i64.wrap (g.banks - 1))) < g.banks:=fun b w h1 h2=>by
  obtain ⟨x,y,_,e,h3,_⟩:=Ais (Gm.pw hg) h1 (b:=w) (by omega)
  rw [e]; omega
 have d1:=dig (n:=n) (a:=g.rows) (b:=g.banks) (c:=g.ranks) (by omega) (by omega) (by omega) (by omega)
 have d2:=dig (n:=n) (a:=g.banks) (b:=g.rows) (c:=g.ranks) (by omega) (by omega) (by omega) (by omega)
 have d3:=dig (n:=n) (a:=g.ranks) (b:=g.banks) (c:=g.rows) (by omega) (by omega) (by omega) (by omega)
 unfold Iq
 rw [hi,fq (show ¬ n < 0 by omega),fq (show ¬ A9 g<=n by omega),d1.1,d1.2.1,d1.2.2,d2.1,d2.2.1,d2.2.2,d3.1,d3.2.1,d3.2.2]
 simp only [cond_true,cond_false]
 exact Ad (p:=fun x:Int=>x=0) (Ad (p:=fun x:Int=>x=0) (hE _ _ _ (Fi (by omega)) (hX _ _ (Fi (by omega)) (Fi (by omega))) (Fi (by omega))) (hE _ _ _ (Fi (by omega)) (Fi (by omega)) (Fi (by omega))))
  (Ad (p:=fun x:Int=>x=0) (Ad (p:=fun x:Int=>x=0) (hE _ _ _ (Fi (by omega)) (hX _ _ (Fi (by omega)) (Fi (by omega))) (Fi (by omega))) (hE _ _ _ (Fi (by omega)) (Fi (by omega)) (Fi (by omega))))
  (Ad (p:=fun x:Int=>x=0) (hE _ _ _ (Fi (by omega)) (hX _ _ (Fi (by omega)) (Fi (by omega))) (Fi (by omega))) (hE _ _ _ (Fi (by omega)) (Fi (by omega)) (Fi (by omega)))))
def Ah7 (s:MapS):Prop:=∀ x ∈ s.lives,0<=x/\x < A9 s.l.g
def Aan (s:MapS):Prop:=∀ x ∈ s.sp,x=-1 ∨ (s.l.g.ranks<=x/\x < s.l.g.ranks + s.l.g.spares)
structure MpIn (s:MapS):Prop where
 lv:Ah7 s
 sp:Aan s
def LvS (s t:MapS):Prop:=t.lives=s.lives/\t.l=s.l/\t.sp=s.sp
theorem LvS.refl (s:MapS):LvS s s:=⟨rfl,rfl,rfl⟩
theorem MpIn.same {s t:MapS} (h:MpIn s) (k:LvS s t):MpIn t:=⟨by unfold Ah7; rw [k.1,k.2.1]; exact h.lv,by unfold Aan; rw [k.2.1,k.2.2]; exact h.sp⟩
theorem Hk {i n:Int} (h:0<=i/\i < n):Bl i n=true:=by
 unfold Bl; rw [tq h.1,tq h.2]; rfl
theorem Atj {i n:Int} (h:i < 0 ∨ n<=i):Bl i n=false:=by
 unfold Bl
 rcases h with h | h
 ·rw [fq (show ¬ 0<=i by omega)]; rfl
 ·rw [fq (show ¬ i < n by omega)]; cases decide (0<=i) <;> rfl
theorem Vn {i n:Int} (h:Dz i n=true):0<=i/\i < n:=Ju h
theorem I6 {i n:Int} (h:0<=i/\i < n):Dz i n=true:=Hk h
theorem T8 (s:RepS) (a:Ak):LvS s.m (B1 s a).m:=by
 have h1:LvS s.m (Cj s.m):=by unfold Cj; exact Ad ⟨rfl,rfl,rfl⟩ (.refl _)
 have h2:LvS s.m (Cy s.m):=by unfold Cy; exact Ad ⟨rfl,rfl,rfl⟩ (.refl _)
 unfold B1
 exact Ad (p:=fun t:RepS=>LvS s.m t.m) (Ad (p:=fun t:RepS=>LvS s.m t.m) h1 h1) (Ad (p:=fun t:RepS=>LvS s.m t.m) h2 h2)
theorem Acb (s:LedS) (k:Int) (v:Ev):(H7 s k v).rep=s.rep:=by
 unfold H7
 exact Ad (p:=fun t:LedS=>t.rep=s.rep) (Ad (p:=fun t:LedS=>t.rep=s.rep) rfl rfl) rfl
theorem M5 (s:LedS) (k:Int) (l:List Ev):∀ i,(Gk s k l i).rep=s.rep
 | 0=>rfl
 | i + 1=>(Acb _ _ _).trans (M5 s k l i)
theorem A06:∀ n,∀ x ∈ Od n,0<=x/\x < ((n:Nat):Int)
 | 0,x,h=>by cases h
 | n + 1,x,h=>by
   rw [Od] at h
   rcases List.mem_append.1 h with h | h
   ·have:=A06 n x h; omega
   ·rcases List.mem_singleton.1 h with rfl; omega
theorem A6r:∀ n,∀ x ∈ spL n,x=-1
 | 0,x,h=>by cases h
 | n + 1,x,h=>by
   rw [spL] at h
   rcases List.mem_append.1 h with h | h
   ·exact A6r n x h
   ·exact List.mem_singleton.1 h
theorem Rz {s:MapS} (ok:MapOk s) {h:Int} (hh:0<=h/\h < A9 s.l.g):Ep s h=0:=by
 have hl:=C0 ok.right
 unfold Ep
 rw [A8p hl.2.1 hl.1 hh]; rfl
theorem A05 {l:Ly} (h:Bc l=true) {n:Int} (hn:0<=n/\n < IntKind.i64.wrap ((A0 l) * l.g.cols)):0<=n / l.g.cols/\n / l.g.cols < A0 l/\IntKind.i64.wrap (n.tdiv l.g.cols)=n / l.g.cols/\n.tmod l.g.cols=n % l.g.cols/\n<=8388608:=by
 obtain ⟨h1,h2,h3,h4,h5,h6,h7,h8,h9,h10⟩:=C0 h
 rw [h7] at hn h8
 have q1:0<=n / l.g.cols:=Int.ediv_nonneg hn.1 (by omega)
 have q2:n / l.g.cols < A0 l:=Int.ediv_lt_of_lt_mul (by omega) hn.2
 refine ⟨q1,q2,?_,Int.tmod_eq_emod_of_nonneg hn.1,by omega⟩
 rw [Int.tdiv_eq_ediv_of_nonneg hn.1]
 exact Ca (by omega)
theorem A09 {s:MapS} (ok:MapOk s) (lv:Ah7 s) {n:Int} (hn:0<=n/\n < IntKind.i64.wrap ((A0 s.l) * s.l.g.cols)):D2 s n=0:=by
 obtain ⟨b1,b2,b3,b4,b5⟩:=A05 ok.right hn
 have hlv:0<=s.lives.getD (n / s.l.g.cols).toNat eI0/\s.lives.getD (n / s.l.g.cols).toNat eI0 < A9 s.l.g:=lv _ (gDm eI0 (by have:=ok.nl; omega))
 unfold D2
 rw [Hk hn,b3,Rz ok hlv]; rfl
theorem A8f (g:Gm) (i:Int):0<=B6 g i:=by
 unfold B6 Gm.atE Gm.at
 cases q:g.atB i with
 | false=>exact Int.le_refl _
 | true =>
   unfold Gm.atB at q
   simp only [bq] at q
   obtain ⟨h1,h2,h3,h4,h5⟩:=U7 q.2
   have hr:=Gm.rt h1
   have m1:=Il (a:=(Gd i).bank) (b:=g.rows) (A:=16) (B:=1024) (by omega) (by omega)
   have m2:=Il (a:=(Gd i).bank * g.rows + (Gd i).row) (b:=g.cols) (A:=32768) (B:=64) (by omega) (by omega)
   simp only [cond_true,decide_true]
   rw [Ca (x:=(Gd i).bank * g.rows) (by omega),Ca (x:=(Gd i).bank * g.rows + (Gd i).row) (by omega),Ca (x:=((Gd i).bank * g.rows + (Gd i).row) * g.cols) (by omega),Ca (by omega)]
   omega
theorem Q5 {j:Jb} {l:Ly} (h:l.g.right=true):0<=A6 j l/\A6 j l<=1048576/\Cd l.g=l.g.banks * l.g.rows * l.g.cols:=by
 have hr:=Gm.rt h
 have m1:=Il (a:=l.g.banks) (b:=l.g.rows) (A:=16) (B:=1024) (by omega) (by omega)
 have m2:=Il (a:=l.g.banks * l.g.rows) (b:=l.g.cols) (A:=16384) (B:=64) (by omega) (by omega)
 have e:Cd l.g=l.g.banks * l.g.rows * l.g.cols:=by
  unfold Cd
  rw [h,cond_true,Ca (x:=l.g.banks * l.g.rows) (by omega),Ca (by omega)]
 have k:0<=A6 j l/\A6 j l<=1048576:=by
  unfold A6
  exact Ad (p:=fun x:Int=>0<=x/\x<=1048576) (by omega) (Ad (p:=fun x:Int=>0<=x/\x<=1048576) (by omega) (by omega))
 exact ⟨k.1,k.2,e⟩
theorem Ao8 {g:Gm} {r i:Int} (h:g.right=true) (hr:0<=r/\r < g.ranks + g.spares) (hi:0<=i/\i < g.banks * g.rows * g.cols):Wd g r i=0:=by
 have hg:=Gm.rt h
 have m1:=Il (a:=g.banks) (b:=g.rows) (A:=16) (B:=1024) (by omega) (by omega)
 have m2:=Il (a:=g.banks * g.rows) (b:=g.cols) (A:=16384) (B:=64) (by omega) (by omega)
 have q1:0<=i / g.cols:=Int.ediv_nonneg hi.1 (by omega)
 have q2:i / g.cols < g.banks * g.rows:=Int.ediv_lt_of_lt_mul (by omega) hi.2
 have q3:0<=i / g.cols / g.rows:=Int.ediv_nonneg q1 (by omega)
 have q4:i / g.cols / g.rows < g.banks:=Int.ediv_lt_of_lt_mul (by omega) q2
 unfold Wd
 rw [Int.tdiv_eq_ediv_of_nonneg hi.1,Ca (x:=i / g.cols) (by omega),Int.tdiv_eq_ediv_of_nonneg q1,Ca (x:=i / g.cols / g.rows) (by omega),Int.tmod_eq_emod_of_nonneg q1,Int.tmod_eq_emod_of_nonneg hi.1]
 exact Amo (Kv h (p:=⟨r,i / g.cols / g.rows,i / g.cols % g.rows,i % g.cols⟩) hr ⟨q3,q4⟩ (Fi (by omega)) (Fi (by omega)))
theorem Zy {j:Jb} {s:MapS} (h:Cq j s=true) (hk:j.kind=1):Dz j.next (IntKind.i64.wrap ((A6 j s.l) + 1))=true/\Kd j s=true:=by
 unfold Cq at h
 rw [fq (show ¬ j.kind=0 by omega),tq hk] at h
 exact cT h
theorem Zz {j:Jb} {s:MapS} (h:Cq j s=true) (hk:j.kind=2):Dz j.next (IntKind.i64.wrap ((A6 j s.l) + 1))=true/\Ke j s=true:=by
 unfold Cq at h
 rw [fq (show ¬ j.kind=0 by omega),fq (show ¬ j.kind=1 by omega),tq hk] at h
 exact cT h
theorem Aus {j:Jb} {s:MapS} {i:Int} (ok:MapOk s) (hj:Cq j s=true) (hk:j.kind=1 ∨ j.kind=2) (hi:0<=i/\i < A6 j s.l) (w:Int) (hw:(j.kind=1->0<=w/\w < A9 s.l.g)/\(j.kind=2->0<=w/\w < s.l.g.ranks + s.l.g.spares)):Gi j s w i=0:=by
 have hl:=C0 ok.right
 unfold Gi
 rw [hj,I6 hi]
 rcases hk with hk | hk
 ·rw [fq (show ¬ j.kind=2 by omega),Rz ok (hw.1 hk)]; rfl
 ·have hc:=(Q5 (j:=j) hl.1).2.2
  have e:A6 j s.l=Cd s.l.g:=by unfold A6; rw [fq (show ¬ j.kind=1 by omega),tq hk]; rfl
  rw [tq hk]
  exact Ao8 hl.1 (hw.2 hk) (by omega)
theorem Amf {j:Jb} {s:MapS} (ok:MapOk s) (hj:Cq j s=true) (hg:0<=j.goal/\j.goal<=1048576):(j.kind=1->0<=j.goal/\j.goal < A9 s.l.g)/\(j.kind=2->0<=j.goal/\j.goal < s.l.g.ranks + s.l.g.spares):=by
 have hr:=Gm.rt (C0 ok.right).1
 constructor
 ·intro hk
  have h:=(Zy hj hk).2
  unfold Kd at h
  exact Vn (cT (cT h).2).1
 ·intro hk
  have h:=(Zz hj hk).2
  unfold Ke at h
  have h:=(cT h).2
  cases q:Cr s j.src with
  | true=>rw [q] at h; cases h
  | false =>
    rw [q] at h
    have h:=Vn h
    rw [D1 (by omega) (by omega)] at h
    omega
theorem A00 {j : Jb} {s : MapS} (ok : MapOk s) (lv : Ah7 s) (hg : 0 <= j.goal /\ j.goal <= 1048576) {n : Int} (hn : 0 <= n /\ n < IntKind.i64.wrap ((A0 s.l) * s.l.g.cols)) : Ei j s n = 0 := by
 have hl:=C0 ok.right
 have h0:=A09 ok lv hn
 have hc:=Q5 (j:=j) hl.1
 unfold Ei
 rw [h0]
 rw [show decide ((0:Int)=0)=true from rfl,cond_true]
 cases hj:Cq j s with
 | false=>rfl
 | true =>
   have hb:=Amf ok hj hg
   have k2 : (bif decide (j.kind = 2) then (bif decide ((Da s n) = j.src) then (bif decide ((B6 s.l.g (Ag s n)) < j.next) then (Gi j s j.goal (B6 s.l.g (Ag s n))) else 0) else 0) else 0) = (0 : Int) := by
    cases q2:decide (j.kind=2) with
    | false=>rfl
    | true =>
      have q2:=otq q2
      cases decide ((Da s n)=j.src) with
      | false=>rfl
      | true =>
        cases q4:decide ((B6 s.l.g (Ag s n)) < j.next) with
        | false=>rfl
        | true =>
          have q4:=otq q4
          have hx:=Vn (Zz hj q2).1
          rw [Ca (by omega)] at hx
          have:=A8f s.l.g (Ag s n)
          exact Aus ok hj (Or.inr q2) ⟨this,by omega⟩ _ hb
   simp only [cond_true]
   cases q1:decide (j.kind=1) with
   | false=>exact k2
   | true =>
     have q1:=otq q1
     simp only [cond_true]
     refine Ad (p:=fun x:Int=>x=0) ?_ k2
     cases q4:decide (n.tmod s.l.g.cols < j.next) with
     | false=>rfl
     | true =>
       have q4:=otq q4
       have hx:=Vn (Zy hj q1).1
       rw [Ca (by omega)] at hx
       have hm:0<=n.tmod s.l.g.cols:=Int.tmod_nonneg _ hn.1
       exact Aus ok hj (Or.inl q1) ⟨hm,by omega⟩ _ hb
theorem Ak6 {s:CtlS} {n:Int} (hn:n < 0 ∨ IntKind.i64.wrap ((A0 s.le.rep.m.l) * s.le.rep.m.l.g.cols)<=n):F0 s n=30:=by
 have e:Ei s.le.rep.j s.le.rep.m n=12:=by
  unfold Ei D2
  rw [Atj hn]; rfl
 unfold F0
 rw [e]; rfl
theorem orB {k x b:Nat} (hb:b < 2 ^ k) (h:2 ^ k * x + b < 9223372036854775808):bits .or .i64 ((2 ^ k * x:Nat):Int) ((b:Nat):Int)=((2 ^ k * x + b:Nat):Int):=by
 have e:bits .or .i64 ((2 ^ k * x:Nat):Int) ((b:Nat):Int)=IntKind.i64.wrap (((BitVec.ofInt 64 ((2 ^ k * x:Nat):Int) ||| BitVec.ofInt 64 ((b:Nat):Int)).toNat:Nat):Int):=rfl
 rw [e,BitVec.toNat_or,bvN (n:=64) (show 2 ^ k * x < 2 ^ 64 by omega),bvN (n:=64) (show b < 2 ^ 64 by omega),← Nat.two_pow_add_eq_or_of_lt hb]
 exact Qk ⟨by omega,by omega⟩
theorem Avw (n:Int) (k:Nat) (hk:k < 63):bits .and .i64 n ((2 ^ k - 1:Nat):Int)=((n % 18446744073709551616).toNat % 2 ^ k:Nat):=by
 have hp:2 ^ k<=2 ^ 62:=Nat.pow_le_pow_right (by decide) (by omega)
 have hp0:0 < 2 ^ k:=Nat.pos_of_ne_zero (by simp)
 have hm:(n % 18446744073709551616).toNat % 2 ^ k < 2 ^ k:=Nat.mod_lt _ hp0
 have e:bits .and .i64 n ((2 ^ k - 1:Nat):Int)=IntKind.i64.wrap (((BitVec.ofInt 64 n &&& BitVec.ofInt 64 ((2 ^ k - 1:Nat):Int)).toNat:Nat):Int):=rfl
 rw [e,BitVec.toNat_and,bvN (n:=64) (show 2 ^ k - 1 < 2 ^ 64 by omega),Nat.and_two_pow_sub_one_eq_mod,BitVec.toNat_ofInt]
 exact Qk ⟨by omega,by omega⟩
theorem Zv {p:Pl} (a:0<=p.rank/\p.rank < 16) (b:0<=p.bank/\p.bank < 16) (c:0<=p.row/\p.row < 1024) (d:0<=p.col/\p.col < 64):p.ix=p.rank * 1048576 + p.bank * 65536 + p.row * 64 + p.col:=by
 obtain ⟨r,bk,w,co⟩:=p
 simp only at a b c d
 obtain ⟨r,rfl⟩:∃ x:Nat,r=((x:Nat):Int):=⟨r.toNat,by omega⟩
 obtain ⟨bk,rfl⟩:∃ x:Nat,bk=((x:Nat):Int):=⟨bk.toNat,by omega⟩
 obtain ⟨w,rfl⟩:∃ x:Nat,w=((x:Nat):Int):=⟨w.toNat,by omega⟩
 obtain ⟨co,rfl⟩:∃ x:Nat,co=((x:Nat):Int):=⟨co.toNat,by omega⟩
 unfold Pl.ix
 simp only
 rw [Ca (x:=((r:Nat):Int) * 2 ^ 20) (by omega),Ca (x:=((bk:Nat):Int) * 2 ^ 16) (by omega),Ca (x:=((w:Nat):Int) * 2 ^ 6) (by omega)]
 rw [show ((r:Nat):Int) * 2 ^ 20=((2 ^ 20 * r:Nat):Int) by omega,show ((bk:Nat):Int) * 2 ^ 16=((2 ^ 16 * bk:Nat):Int) by omega,show ((w:Nat):Int) * 2 ^ 6=((2 ^ 6 * w:Nat):Int) by omega]
 rw [orB (k:=20) (x:=r) (b:=2 ^ 16 * bk) (by omega) (by omega)]
 rw [show 2 ^ 20 * r + 2 ^ 16 * bk=2 ^ 16 * (16 * r + bk) by omega,orB (k:=16) (b:=2 ^ 6 * w) (by omega) (by omega)]
 rw [show 2 ^ 16 * (16 * r + bk) + 2 ^ 6 * w=2 ^ 6 * (1024 * (16 * r + bk) + w) by omega,orB (k:=6) (by omega) (by omega)]
 omega
theorem Ag7 {i:Int} (h:0<=i/\i < 16777216):Gd i=⟨i / 1048576,i / 65536 % 16,i / 64 % 1024,i % 64⟩:=by
 have a1:=Avw (i / 65536) 4 (by decide)
 have a2:=Avw (i / 64) 10 (by decide)
 have a3:=Avw i 6 (by decide)
 unfold Gd
 rw [Int.fdiv_eq_ediv_of_nonneg _ (by decide),Int.fdiv_eq_ediv_of_nonneg _ (by decide),Int.fdiv_eq_ediv_of_nonneg _ (by decide)]
 rw [show (2:Int) ^ 20=1048576 from rfl,show (2:Int) ^ 16=65536 from rfl,show (2:Int) ^ 6=64 from rfl]
 rw [show bits .and .i64 (i / 65536) 15=_ from a1,show bits .and .i64 (i / 64) 1023=_ from a2,show bits .and .i64 i 63=_ from a3]
 congr 1 <;> omega
theorem S3 {p:Pl} (a:0<=p.rank/\p.rank < 16) (b:0<=p.bank/\p.bank < 16) (c:0<=p.row/\p.row < 1024) (d:0<=p.col/\p.col < 64):Gd p.ix=p:=by
 have e:=Zv a b c d
 rw [Ag7 (by omega),e]
 obtain ⟨r,bk,w,co⟩:=p
 simp only at a b c d ⊢
 congr 1 <;> omega
theorem Ip {g:Gm} {p:Pl} (h:g.holds p=true):(0<=p.rank/\p.rank < 16)/\(0<=p.bank/\p.bank < 16)/\(0<=p.row/\p.row < 1024)/\(0<=p.col/\p.col < 64):=by
 obtain ⟨h0,h1,h2,h3,h4⟩:=U7 h
 have hg:=Gm.rt h0
 omega
theorem K5 {g:Gm} {p:Pl} (h:g.holds p=true):g.atB p.ix=true:=by
 obtain ⟨a,b,c,d⟩:=Ip h
 unfold Gm.atB
 rw [S3 a b c d,h,Zv a b c d,fq (by omega)]; rfl
theorem A5k {g:Gm} {p q:Pl} (hp:g.holds p=true) (hq:g.holds q=true) (h:p.ix=q.ix):p=q:=by
 obtain ⟨a,b,c,d⟩:=Ip hp
 obtain ⟨a',b',c',d'⟩:=Ip hq
 rw [← S3 a b c d,h,S3 a' b' c' d']
def C2 (g:Gm) (w n:Int):Pl :=
 bif decide (w=0) then ⟨n / g.rows / g.banks % g.ranks,n / g.rows % g.banks,n % g.rows,0⟩
 else (bif decide (w=1) then ⟨n / g.banks / g.rows % g.ranks,n % g.banks,n / g.banks % g.rows,0⟩
 else (bif decide (w=3) then ⟨n % g.ranks,bits .xor .i64 (n / g.ranks % g.banks) (bits .and .i64 (n / g.ranks / g.banks % g.rows) (IntKind.i64.wrap (g.banks - 1))),n / g.ranks / g.banks % g.rows,0⟩
 else ⟨n % g.ranks,n / g.ranks % g.banks,n / g.ranks / g.banks % g.rows,0⟩))
theorem B0f {g:Gm} (hg:g.right=true) {b w:Int} (h1:0<=b/\b < g.banks) (h2:0<=w/\w < g.rows):0<=bits .xor .i64 b (bits .and .i64 w (IntKind.i64.wrap (g.banks - 1)))/\bits .xor .i64 b (bits .and .i64 w (IntKind.i64.wrap (g.banks - 1))) < g.banks:=by
 have hr:=Gm.rt hg
 obtain ⟨x,y,_,e,h3,_⟩:=Ais (Gm.pw hg) h1 (b:=w) (by omega)
 rw [e]; omega
theorem Mu {g:Gm} (hg:g.right=true) (w n:Int):(0<=(C2 g w n).rank/\(C2 g w n).rank < g.ranks)/\(0<=(C2 g w n).bank/\(C2 g w n).bank < g.banks)/\(0<=(C2 g w n).row/\(C2 g w n).row < g.rows)/\(C2 g w n).col=0:=by
 have hr:=Gm.rt hg
 let p:=fun x:Pl=>(0<=x.rank/\x.rank < g.ranks)/\(0<=x.bank/\x.bank < g.banks)/\(0<=x.row/\x.row < g.rows)/\x.col=0
 unfold C2
 exact Ad (p:=p) ⟨Fi (by omega),Fi (by omega),Fi (by omega),rfl⟩ (Ad (p:=p) ⟨Fi (by omega),Fi (by omega),Fi (by omega),rfl⟩ (Ad (p:=p) ⟨Fi (by omega),B0f hg (Fi (by omega)) (Fi (by omega)),Fi (by omega),rfl⟩ ⟨Fi (by omega),Fi (by omega),Fi (by omega),rfl⟩))
theorem Aml {g:Gm} {w n:Int} (hi:B7 g w=true) (hg:g.right=true) (hn:0<=n/\n < A9 g):Ea g w n=(C2 g w n).rank * 16384 + (C2 g w n).bank * 1024 + (C2 g w n).row:=by
 have hr:=Gm.rt hg
 have hp:=J7 hg
 have hq:=Mu hg w n
 have d1:=dig (n:=n) (a:=g.rows) (b:=g.banks) (c:=g.ranks) (by omega) (by omega) (by omega) (by omega)
 have d2:=dig (n:=n) (a:=g.banks) (b:=g.rows) (c:=g.ranks) (by omega) (by omega) (by omega) (by omega)
 have d3:=dig (n:=n) (a:=g.ranks) (b:=g.banks) (c:=g.rows) (by omega) (by omega) (by omega) (by omega)
 have e:Ea g w n=(g.ix (C2 g w n)).fdiv (2 ^ 6):=by
  unfold Ea C2
  rw [hi,fq (show ¬ n < 0 by omega),fq (show ¬ A9 g<=n by omega),d1.1,d1.2.1,d1.2.2,d2.1,d2.2.1,d2.2.2,d3.1,d3.2.1,d3.2.2]
  simp only [cond_true,cond_false]
  cases h0:decide (w=0) with
  | true=>rw [fq (show ¬ w=3 by have:=otq h0; omega)]; rfl
  | false =>
    simp only [cond_false]
    cases h1:decide (w=1) with
    | true=>rw [fq (show ¬ w=3 by have:=otq h1; omega)]; rfl
    | false=>cases decide (w=3) <;> rfl
 have hh:g.holds (C2 g w n)=true:=Kv hg ⟨hq.1.1,by omega⟩ hq.2.1 hq.2.2.1 (by omega)
 obtain ⟨a,b,c,d⟩:=Ip hh
 rw [e]
 unfold Gm.ix
 rw [hh,cond_true,Zv a b c d,Int.fdiv_eq_ediv_of_nonneg _ (by decide),show (2:Int) ^ 6=64 from rfl]
 omega
def Sg (s:MapS) (r:Int):Int:=bif Cr s r then Gn s r else r
theorem A6t {s:MapS} (ok:MapOk s) (sp:Aan s) {r:Int} (h:0<=r/\r < s.l.g.ranks):0<=Sg s r/\Sg s r < s.l.g.ranks + s.l.g.spares:=by
 have hg:=Gm.rt (C0 ok.right).1
 have hns:=ok.ns
 have hm:s.sp.getD r.toNat eI0 ∈ s.sp:=gDm eI0 (by omega)
 unfold Sg Cr Gn
 rw [Hk (show 0<=r/\r < ((s.sp.length:Nat):Int) by omega)]
 simp only [cond_true]
 rcases sp _ hm with h1 | h1
 ·rw [tq h1]; exact ⟨h.1,by show r < _; omega⟩
 ·rw [fq (show ¬ s.sp.getD r.toNat eI0=-1 by omega)]
  simp only [cond_false,cond_true]
  omega
theorem A9j {s:MapS} (ok:MapOk s) (sp:Aan s) {h:Int} (hh:0<=h/\h < A9 s.l.g):C1 s h=Sg s (C2 s.l.g s.l.way h).rank * 16384 + (C2 s.l.g s.l.way h).bank * 1024 + (C2 s.l.g s.l.way h).row/\Oe s h=(C2 s.l.g s.l.way h).rank:=by
 have hl:=C0 ok.right
 have hg:=Gm.rt hl.1
 have hq:=Mu hl.1 s.l.way h
 have e:=Aml hl.2.1 hl.1 hh
 have er:(Ea s.l.g s.l.way h).fdiv (2 ^ 14)=(C2 s.l.g s.l.way h).rank:=by
  rw [e,Int.fdiv_eq_ediv_of_nonneg _ (by decide),show (2:Int) ^ 14=16384 from rfl]; omega
 have hs:=A6t ok sp hq.1
 unfold C1 Oe
 rw [A8p hl.2.1 hl.1 hh,er]
 refine ⟨?_,rfl⟩
 unfold Sg at hs ⊢
 rw [show decide ((0:Int)=0)=true from rfl]
 cases q:Cr s (C2 s.l.g s.l.way h).rank with
 | false=>simp only [cond_true,cond_false]; exact e
 | true =>
   rw [q] at hs
   simp only [cond_true] at hs ⊢
   rw [e,D1 (x:=Gn s (C2 s.l.g s.l.way h).rank - (C2 s.l.g s.l.way h).rank) (by omega) (by omega),show (2:Int) ^ 14=16384 from rfl,D1 (x:=(Gn s (C2 s.l.g s.l.way h).rank - (C2 s.l.g s.l.way h).rank) * 16384) (by omega) (by omega),Ca (by omega)]
   omega
def Hx (s:MapS) (h k:Int):Pl:=⟨Sg s (C2 s.l.g s.l.way h).rank,(C2 s.l.g s.l.way h).bank,(C2 s.l.g s.l.way h).row,k⟩
theorem P9 {s:MapS} (ok:MapOk s) (sp:Aan s) {h k:Int} (hh:0<=h/\h < A9 s.l.g) (hk:0<=k/\k < s.l.g.cols):s.l.g.holds (Hx s h k)=true:=by
 have hl:=C0 ok.right
 have hq:=Mu hl.1 s.l.way h
 exact Kv hl.1 (A6t ok sp hq.1) hq.2.1 hq.2.2.1 hk
theorem Y7 {s:MapS} (ok:MapOk s) (sp:Aan s) {h k:Int} (hh:0<=h/\h < A9 s.l.g) (hk:0<=k/\k < s.l.g.cols):bits .or .i64 (IntKind.i64.wrap (C1 s h * 2 ^ 6)) k=(Hx s h k).ix:=by
 have hl:=C0 ok.right
 have hg:=Gm.rt hl.1
 have hq:=Mu hl.1 s.l.way h
 have hs:=A6t ok sp hq.1
 obtain ⟨a,b,c,d⟩:=Ip (P9 ok sp hh hk)
 rw [Zv a b c d,(A9j ok sp hh).1]
 show _=Sg s (C2 s.l.g s.l.way h).rank * 1048576 + (C2 s.l.g s.l.way h).bank * 65536 + (C2 s.l.g s.l.way h).row * 64 + k
 generalize Sg s (C2 s.l.g s.l.way h).rank=r at hs ⊢
 generalize (C2 s.l.g s.l.way h).bank=b at hq ⊢
 generalize (C2 s.l.g s.l.way h).row=w at hq ⊢
 rw [show (2:Int) ^ 6=64 from rfl,Ca (by omega)]
 have h1:=orB (k:=6) (x:=(r * 16384 + b * 1024 + w).toNat) (b:=k.toNat) (by omega) (by omega)
 rw [show (((2 ^ 6 * (r * 16384 + b * 1024 + w).toNat:Nat)):Int)=(r * 16384 + b * 1024 + w) * 64 by omega,show ((k.toNat:Nat):Int)=k by omega] at h1
 rw [h1]; omega
theorem A3b {s:MapS} (ok:MapOk s) (lv:Ah7 s) (sp:Aan s) {n:Int} (hn:0<=n/\n < IntKind.i64.wrap ((A0 s.l) * s.l.g.cols)) :
    Ag s n=(Hx s (s.lives.getD (n / s.l.g.cols).toNat eI0) (n % s.l.g.cols)).ix/\s.l.g.holds (Hx s (s.lives.getD (n / s.l.g.cols).toNat eI0) (n % s.l.g.cols))=true /\
    Gl s n=s.lives.getD (n / s.l.g.cols).toNat eI0/\Da s n=(C2 s.l.g s.l.way (s.lives.getD (n / s.l.g.cols).toNat eI0)).rank:=by
 have hl:=C0 ok.right
 have hg:=Gm.rt hl.1
 obtain ⟨b1,b2,b3,b4,b5⟩:=A05 ok.right hn
 have hlv:0<=s.lives.getD (n / s.l.g.cols).toNat eI0/\s.lives.getD (n / s.l.g.cols).toNat eI0 < A9 s.l.g:=lv _ (gDm eI0 (by have:=ok.nl; omega))
 have hk:0<=n % s.l.g.cols/\n % s.l.g.cols < s.l.g.cols:=Fi (by omega)
 unfold Ag Gl Da
 rw [Hk hn,b3,b4,Rz ok hlv,(A9j ok sp hlv).2]
 exact ⟨Y7 ok sp hlv hk,P9 ok sp hlv hk,rfl,rfl⟩
theorem Ma {g:Gm} {i:Int} (h:g.atB i=true):g.atE i=0:=by unfold Gm.atE; rw [h]; rfl
theorem Up {a b r s:Int} {m:Int} (hm:1<=m) (hr:a % m=b % m) (hq:a / m=b / m):a=b:=by
 rw [← Int.emod_add_mul_ediv a m,← Int.emod_add_mul_ediv b m,hr,hq]
theorem Aho {n a b:Int} (hn:0<=n) (ha:1<=a) (h:n < b * a):0<=n / a/\n / a < b:=⟨Int.ediv_nonneg hn (by omega),Int.ediv_lt_of_lt_mul (by omega) h⟩
theorem Xs {n a:Int} (h:0<=n/\n < a):n % a=n:=Int.emod_eq_of_lt h.1 h.2
theorem At0 {n a a' b:Int} (hn:H9 n 16=true) (ha:0<=a/\a < n) (ha':0<=a'/\a' < n) (hb:0<=b/\b < 1024) (h:bits .xor .i64 a (bits .and .i64 b (IntKind.i64.wrap (n - 1)))=bits .xor .i64 a' (bits .and .i64 b (IntKind.i64.wrap (n - 1)))):a=a':=by
 obtain ⟨x,y,e1,e2,_,e4⟩:=Ais hn ha hb
 obtain ⟨x',y',e1',e2',_,e4'⟩:=Ais hn ha' hb
 rw [e2,e2',e4,e4'] at h
 have h1:x ^^^ (b % n).toNat=x' ^^^ (b % n).toNat:=by omega
 have h2:x=x':=by
  have:=congrArg (fun z=>z ^^^ (b % n).toNat) h1
  simpa [Nat.xor_assoc] using this
 rw [e1,e1',h2]
theorem A0w {g:Gm} (hg:g.right=true) {w n m:Int} (hn:0<=n/\n < A9 g) (hm:0<=m/\m < A9 g) (h:C2 g w n=C2 g w m):n=m:=by
 have hr:=Gm.rt hg
 have hp:=(J7 hg).1
 rw [hp] at hn hm
 have e1:g.ranks * g.banks * g.rows=g.ranks * g.banks * g.rows:=rfl
 have p1:∀ k:Int,0<=k/\k < g.ranks * g.banks * g.rows->(0<=k / g.rows/\k / g.rows < g.ranks * g.banks)/\(0<=k / g.rows / g.banks/\k / g.rows / g.banks < g.ranks):=fun k hk=>by
  have a:=Aho hk.1 (a:=g.rows) (b:=g.ranks * g.banks) (by omega) hk.2
  exact ⟨a,Aho a.1 (by omega) a.2⟩
 have p2:∀ k:Int,0<=k/\k < g.ranks * g.banks * g.rows->(0<=k / g.banks/\k / g.banks < g.ranks * g.rows)/\(0<=k / g.banks / g.rows/\k / g.banks / g.rows < g.ranks):=fun k hk=>by
  have a:=Aho hk.1 (a:=g.banks) (b:=g.ranks * g.rows) (by omega) (by rw [Int.mul_right_comm]; exact hk.2)
  exact ⟨a,Aho a.1 (by omega) a.2⟩
 have p3:∀ k:Int,0<=k/\k < g.ranks * g.banks * g.rows->(0<=k / g.ranks/\k / g.ranks < g.rows * g.banks)/\(0<=k / g.ranks / g.banks/\k / g.ranks / g.banks < g.rows):=fun k hk=>by
  have a:=Aho hk.1 (a:=g.ranks) (b:=g.rows * g.banks) (by omega) (by rw [show g.rows * g.banks * g.ranks=g.ranks * g.banks * g.rows by rw [Int.mul_comm g.ranks g.banks,Int.mul_comm g.rows,Int.mul_assoc,Int.mul_comm g.rows,← Int.mul_assoc]]; exact hk.2)
  exact ⟨a,Aho a.1 (by omega) a.2⟩
 unfold C2 at h
 cases h0:decide (w=0) with
 | true =>
   rw [h0] at h
   simp only [cond_true,Pl.mk.injEq] at h
   rw [Xs (p1 n hn).2,Xs (p1 m hm).2] at h
   exact Up (r:=0) (s:=0) (by omega) h.2.2.1 (Up (r:=0) (s:=0) (by omega) h.2.1 h.1)
 | false =>
   rw [h0] at h
   simp only [cond_false] at h
   cases h1:decide (w=1) with
   | true =>
     rw [h1] at h
     simp only [cond_true,Pl.mk.injEq] at h
     rw [Xs (p2 n hn).2,Xs (p2 m hm).2] at h
     exact Up (r:=0) (s:=0) (by omega) h.2.1 (Up (r:=0) (s:=0) (by omega) h.2.2.1 h.1)
   | false =>
     rw [h1] at h
     simp only [cond_false] at h
     cases h3:decide (w=3) with
     | true =>
       rw [h3] at h
       simp only [cond_true,Pl.mk.injEq] at h
       obtain ⟨k1,k2,k3,_⟩:=h
       rw [k3] at k2
       have k4:=At0 (Gm.pw hg) (Fi (by omega)) (Fi (by omega)) (by have:=Fi (n:=m / g.ranks / g.banks) (a:=g.rows) (by omega); omega) k2
       rw [Xs (p3 n hn).2,Xs (p3 m hm).2] at k3
       exact Up (r:=0) (s:=0) (by omega) k1 (Up (r:=0) (s:=0) (by omega) k4 k3)
     | false =>
       rw [h3] at h
       simp only [cond_false,Pl.mk.injEq] at h
       rw [Xs (p3 n hn).2,Xs (p3 m hm).2] at h
       exact Up (r:=0) (s:=0) (by omega) h.1 (Up (r:=0) (s:=0) (by omega) h.2.1 h.2.2.1)
theorem A8v:∀ k i,i < k->(Od k).getD i eI0=((i:Nat):Int)
 | 0,i,h=>absurd h (Nat.not_lt_zero _)
 | k + 1,i,h=>by
   rw [Od,List.getD_eq_getElem?_getD,List.getElem?_append,M6]
   by_cases e:i < k
   ·rw [if_pos e,← List.getD_eq_getElem?_getD]; exact A8v k i e
   ·rw [if_neg e,show i=k by omega,Nat.sub_self]; rfl
theorem Asx {l:Ly} (h:Bc l=true):MpIn (Ga l):=by
 have hl:=C0 h
 refine ⟨fun x hx=>?_,fun x hx=>Or.inl (A6r _ x hx)⟩
 have:=A06 _ x hx
 show 0<=x/\x < A9 l.g
 omega
