import Derived.Test.YtoflmffbkdekcaaGreatFJR
import Derived.Test.YtoflmffbkdekcaaGreatFJN
namespace Go.Proofs.YtoflmffbkdekcaaGreat
open Go Go.RowKit
set_option linter.unusedVariables false
set_option linter.unusedSimpArgs false
theorem rapart_eq {m : Int} (hm : m = 1 ∨ m = 2) (a b : Int) : rapart_v0 m a b = japart_v0 m a b := by
  unfold rapart_v0 japart_v0
  rcases hm with rfl | rfl
  · rfl
  · show (!decide (((nu a:Nat):Int)=((nu b:Nat):Int)))=!(eqA (nf (byF a)) (nf (byF b)) 3 0)
    congr 1
    have key:nu a=nu b ↔ eqA (nf (byF a)) (nf (byF b)) 3 0=true:=by
      rw [eqA_iff]
      have e (x:Int):nf (byF x) 0=((nu x % 256:Nat):Int)∧nf (byF x) 1=((nu x / 256 % 256:Nat):Int)∧nf (byF x) 2=((nh x % 128:Nat):Int):=⟨rfl,rfl,rfl⟩
      have h (x:Int):nu x=nu x % 256 + 256 * (nu x / 256 % 256) + 65536 * (nh x % 128):=by unfold nu nh; omega
      have g (x y:Int) (k:nu x=nu y):nh x % 128=nh y % 128:=by unfold nu at k; unfold nh; omega
      obtain ⟨a0,a1,a2⟩:=e a
      obtain ⟨b0,b1,b2⟩:=e b
      constructor
      · intro k j _ hj
        have gk:=g a b k
        match j,hj with
        | 0,_=>rw [a0,b0,k]
        | 1,_=>rw [a1,b1,k]
        | 2,_=>rw [a2,b2,gk]
        | j + 3,hj=>omega
      · intro k
        have k0:=k 0 (by omega) (by omega)
        have k1:=k 1 (by omega) (by omega)
        have k2:=k 2 (by omega) (by omega)
        rw [a0,b0] at k0
        rw [a1,b1] at k1
        rw [a2,b2] at k2
        have ha:=h a
        have hb:=h b
        omega
    cases hq:eqA (nf (byF a)) (nf (byF b)) 3 0 with
    | true=>exact decide_eq_true (by rw [key.2 hq])
    | false=>exact decide_eq_false fun k=>by rw [key.1 (by omega)] at hq; cases hq
theorem radd_eq {m:Int} (hm:m=1 ∨ m=2) {p:Lk} (h:0≤p.exp) (a:Acc):radd p m a=jadd_r p m a:=by
  rw [jadd_eq h]
  unfold radd
  rw [rapart_eq hm]
  unfold aL jstray_v0
  obtain ⟨e,s,d,t⟩:=p
  cases a.drop with
  | true =>
    show (⟨e,true,true,t⟩:Lk)=lkJ ⟨e,s,d,t⟩ ⟨0,true,true || _,_ || (true || _)⟩
    unfold lkJ
    simp [mx_0 h]
  | false =>
    cases decide (a.went=a.index) with
    | true =>
      show (⟨bif decide (e < bif a.mark then _ else _) then _ else e,s,d,t⟩:Lk)=lkJ ⟨e,s,d,t⟩ ⟨aN a,false,false,true⟩
      unfold lkJ aN mx
      cases a.mark <;> simp [Bool.cond_decide]
    | false =>
      show (bif a.write then _ else _)=lkJ ⟨e,s,d,t⟩ ⟨0,true,_,_⟩
      unfold lkJ
      have h':mx e 0=e:=mx_0 h
      cases a.write <;> cases japart_v0 m a.index a.went <;> cases d <;> cases decide (0 < a.exp) <;> simp [h']
theorem rsee_eq {m:Int} (hm:m=1 ∨ m=2) (l:List Acc):∀ n,rsee m l n=jsee m l 0 n
  | 0=>rfl
  | n + 1=>by rw [rsee,jsee,rsee_eq hm l n,radd_eq hm (jsee_nn _ _ _ _),Nat.zero_add]
theorem getD_part {l:List Acc} {a n i:Nat} (hi:i < n):((l.drop a).take n).getD i eAcc0=l.getD (a + i) eAcc0:=by
  rw [List.getD_eq_getElem?_getD,List.getD_eq_getElem?_getD,List.getElem?_take,if_pos hi,List.getElem?_drop]
theorem jsee_part (m:Int) (l:List Acc) (a n:Nat):∀ k,k≤n→jsee m ((l.drop a).take n) 0 k=jsee m l a k
  | 0,_=>rfl
  | k + 1,h=>by rw [jsee,jsee,jsee_part m l a n k (by omega),Nat.zero_add,getD_part (by omega)]
theorem rsee_part {m:Int} (hm:m=1 ∨ m=2) (l:List Acc) {a n:Nat} (h:a + n≤l.length):rsee m ((l.drop a).take n) ((l.drop a).take n).length=jsee m l a n:=by
  rw [rsee_eq hm,show ((l.drop a).take n).length=n by rw [List.length_take,List.length_drop]; omega,jsee_part m l a n n (Nat.le_refl _)]
theorem jsee_mode (m k:Int) (l:List Acc) (a:Nat):∀ n,(jsee m l a n).exp=(jsee k l a n).exp∧(jsee m l a n).astray=(jsee k l a n).astray
  | 0=>⟨rfl,rfl⟩
  | n + 1=>by
    obtain ⟨h1,h2⟩:=jsee_mode m k l a n
    rw [jsee_1,jsee_1]
    unfold lkJ aL
    cases jstray_v0 (l.getD (a + n) eAcc0) <;> exact ⟨by show mx _ _=mx _ _; rw [h1] <;> rfl,by show (_ || _)=(_ || _); rw [h2] <;> rfl⟩
theorem rcalm_eq (s:MchS):jCalm_v0 s=rcalm_v0 s.c.d.l:=by
  unfold jCalm_v0 rcalm_v0
  rw [jAt_all,rsee_eq (.inl rfl)]
  obtain ⟨h1,h2⟩:=jsee_mode s.c.d.d.mode 1 s.c.d.l 0 s.c.d.l.length
  rw [h1,h2]
theorem rdT_see (m:Int) (l:List Acc):∀ n,jsee m (rdT l n) 0 (rdT l n).length=jrd m l n
  | 0=>rfl
  | n + 1 => by
    rw [rdT,jrd]
    cases (l.getD n eAcc0).write with
    | true=>exact rdT_see m l n
    | false =>
      simp only [cond_false]
      rw [List.length_append,show ([l.getD n eAcc0]:List Acc).length=1 from rfl,jsee,Nat.zero_add]
      rw [jsee_same m (l:=rdT l n ++ [l.getD n eAcc0]) (l':=rdT l n) _ fun i hi=>?_,rdT_see m l n,List.getD_eq_getElem?_getD,List.getElem?_append_right (Nat.le_refl _),Nat.sub_self]
      · rfl
      · simp only [Nat.zero_add,List.getD_eq_getElem?_getD,List.getElem?_append_left hi]
theorem rwatched_eq {s:MchS} (hm:s.c.d.d.mode=1 ∨ s.c.d.d.mode=2) {m:Int} (e:m=s.c.d.d.mode):jWatched_v0 s=rwatched_v0 m s.c.d.l:=by
  subst e
  unfold jWatched_v0 rwatched_v0 jreads_r
  rw [rsee_eq hm,rdT_see]
end Go.Proofs.YtoflmffbkdekcaaGreat
