/- What the law leans on, part 12: W08q, W08r, W08s, W08t, W05i, W08s7, W09u, W19a, W19b -/
import Derived.Test.YthlpfjnkieaeeaaGreatDoorM11ObjectsRead

set_option maxRecDepth 100000
namespace Go.Proofs.YthlpfjnkieaeeaaGreatDoor
set_option linter.unusedVariables false
namespace Am
open Go.RowKit
section
variable {gs:List Nat} [fZ gs]
open Go.RowKit Cal

def uC (l:List (List UInt8)) (k:Nat):Nat→CV:=fl [BN l,.c (.int .i64 (k:Nat))]
def zu (n:Nat) (l:List (List UInt8)) (k:Nat):Option Nat×bp:=(some n,.blk 2 (uC l k))
theorem B5 {gs:List Nat} (b:List UInt8) (hb:b.length≤1000000):AC gs Tryz.prog 76 [] [bu b] (fun r H'=>∃ n,r=.op 0 (some n) 0∧H'=[zu n [b] (af b).2]):=by
 refine ai 15 Tryz.func76 fun al w0 F0 St0=>?_;refine jU 16516 ?_
 refine ak (ap (w8 b hb) ?_)
 refine jU 165119009001 ?_
 refine ak (aU 1 1 cJ fun p1=>?_)
 refine jU 1 ?_;refine jq (ae (n:=2) rfl OJ Pb rfl rfl) ?_
 refine ak (cE 2 fun p2=>?_)
 refine jU 51 ?_;refine kZ (tW 2 rfl) fun hn=>?_
 obtain ⟨n,rfl⟩:=hn
 refine jE (freeze 0 rfl) ?_;refine jE (thawC 1 0 0 (uC [b] (af b).2) (fun i _=>bu ([b].getD i [])) rfl rfl cZ cZ (fun j hj h0=>by rcases j with _|_|j <;> first|omega|exact cZ) (by simp) (fun a c ha hc=>by obtain rfl:a=0:=(by simpa using ha);obtain rfl:c=0:=jO;exact cZ)) ?_;refine jU 7000 ?_
 exact bo (.inl rfl) [1] jD rfl (aA rfl (aP rfl)) (cP (j:=0)) ⟨n,rfl,rfl⟩
theorem B7 {gs:List Nat} (n:Nat) (l:List (List UInt8)) (k:Nat) (hl:0<l.length∧l.length≤1000000):AC gs Tryz.prog 152 [zu n l k] [.op 0 (some n) 0] (fun r H'=>r=.c (.bool (cn l k))∧H'=[zu n l k]):=by
 refine ai 24 Tryz.func152 fun al w0 F0 St0=>?_;refine jU 7516 ?_;refine ff (.rd 0 (.rd 1 (.rd 2 (.rd 3 (.rd 4 (.rd 5 (.rd 6 (.rd 7 (.rd 8 (.rd 9 (.rd 10 (.rd 11 (.rd 12 (.rd 13 (.rd 14 (.rd 15 (.rd 16 (.rd 17 (.rd 18 (.rd 19 (.rd 20 (.rd 21 .done)))))))))))))))))))))) ?_;refine jU 708001000080000005000070 ?_;refine gG 8 (fun g182=>?_) fun g182=>?_
 ·refine jU 3000020000100009000005000070100009000005000070 ?_;refine bV (fb (i:=(l.length-1)) (hz:=by omega)) ?_;refine jU 70008807030000008002000070000 ?_
  exact ba (.inl rfl) rfl (aA rfl (aP rfl)) (cB (by unfold cn aD;(simp [];omega)))
 refine jU 700088070300000600600600600600600600600600600600600600600 ?_
 exact ba (.inl rfl) rfl (aA rfl (aP rfl)) (cB (by unfold cn aD;(simp [];omega)))
theorem EZ {gs:List Nat} (n:Nat) (l:List (List UInt8)) (k:Nat) (hl:0<l.length∧l.length≤1000000):AC gs Tryz.prog 79 [zu n l k] [.op 0 (some n) 0] (fun r H'=>r=.c (.int .i64 (ke l k:Nat))∧H'=[zu n l k]):=by
 refine ai 26 Tryz.func79 fun al w0 F0 St0=>?_;refine jU 525010040167516 ?_;refine aq (fun h286=>?_) fun h286=>?_
 ·refine jU 3000700051501004016 ?_
  exact ba (.inl rfl) rfl (aA rfl (aP rfl)) (cI (by unfold ke;rw [jP]))
 refine jU 523509040167810 ?_;refine aq (fun h289=>?_) fun h289=>?_
 ·refine jU 30007000516 ?_
  exact ba (.inl rfl) rfl (aA rfl (aP rfl)) (cI (by unfold ke;rw [jK,jP];rfl))
 refine jU 523602000000509040167810 ?_;refine aq (fun h292=>?_) fun h292=>?_
 ·refine jU 30007000516 ?_
  exact ba (.inl rfl) rfl (aA rfl (aP rfl)) (cI (by unfold ke;rw [jK,jK,jP];rfl))
 refine jU 7000516810 ?_
 exact ba (.inl rfl) rfl (aA rfl (aP rfl)) (cI (by unfold ke;rw [jK,jK,jK];rfl))
end
section
variable {gs:List Nat} [fZ gs]
open Go.RowKit Cal

theorem vg {l:List (List UInt8)} {m j:Nat} (h:j<(l.take m).length):bu (l.getD (0+j / 1) [])=lM (l.take m) j:=by
 rw [Nat.zero_add,Nat.div_one]
 rw [List.length_take] at h
 simp [lM,List.getD_eq_getElem?_getD,show j<m by omega]
theorem Qn {l:List (List UInt8)} (h:0<l.length) (x:List UInt8):l.set (l.length-1) x=l.take (l.length-1)++[x]:=by
 apply List.ext_getElem?
 intro i
 rw [List.getElem?_set,List.getElem?_append,List.length_take]
 by_cases h1:l.length-1=i
 ·subst h1
  rw [if_pos rfl,jP,jK]
  simp
 ·rw [if_neg h1]
  by_cases h2:i<l.length-1
  ·rw [jP,List.getElem?_take,if_pos h2]
  ·rw [jK,List.getElem?_eq_none jO,List.getElem?_eq_none (by simp;omega)]
def ww (tag:Int) (l:List (List UInt8)):Nat:=if (ah (aD l)).e=0∧tag≠0∧((ah (aD l)).tag:Int)≠tag then 5 else (ah (aD l)).e
theorem Lz {tag:Int} {l:List (List UInt8)} (h:ww tag l≠0):ac tag l 0=⟨l,ww tag l,0,[],[],false⟩:=by
 unfold ww at h ⊢
 unfold ac
 by_cases hc:(ah (aD l)).e=0∧tag≠0∧((ah (aD l)).tag:Int)≠tag
 ·rw [if_pos hc,jK,jK,jP]
 ·rw [if_neg hc] at h ⊢
  rw [jK,jP]
theorem If {tag:Int} {l:List (List UInt8)} (h:ww tag l=0):(ah (aD l)).e=0∧(tag=0∨((ah (aD l)).tag:Int)=tag):=by
 unfold ww at h
 by_cases hc:(ah (aD l)).e=0∧tag≠0∧((ah (aD l)).tag:Int)≠tag
 ·rw [if_pos hc] at h;cases h
 ·rw [if_neg hc] at h;omega
theorem iY {gs:List Nat} (n:Nat) (l:List (List UInt8)) (k:Nat) (tag:Int) (hl:0<l.length∧l.length≤1000000) (hb:(aD l).length≤1000000):AC gs Tryz.prog 150 [zu n l k] [.op 0 (some n) 0,.c (.int .i64 tag)]
  (fun r H'=>r=.tup 3 (fl [bu (ac tag l k).body,bu (ac tag l k).raw,.c (.bool (ac tag l k).is)])∧H'=[zu n (ac tag l k).l (ac tag l k).k]):=by
 have hnb:=ew (aD l)
 refine ai 81 Tryz.func150 fun al w0 F0 St0=>?_;refine jU 52501004016751116 ?_;refine aq (fun h165=>?_) fun h165=>?_
 ·refine jU 3000700051116 ?_
  have hN:ac tag l k=⟨l,k,0,[],[],false⟩:=by unfold ac;rw [jP]
  rw [hN]
  exact ba (.inl rfl) rfl (er rfl aG aG aG) (ab.tup3 cN cN cZ)
 refine jU 7810 ?_;refine ff (.rd 0 (.rd 1 (.rd 2 (.rd 3 (.rd 4 (.rd 5 (.rd 6 (.rd 7 (.rd 8 (.rd 9 (.rd 10 (.rd 11 (.rd 12 .done))))))))))))) ?_;refine jU 3000020000100009000005000070100009000005000070 ?_;refine bV (fb (i:=(l.length-1)) (hz:=by omega)) ?_;refine jU 8807070000 ?_
 obtain rfl:k=0:=by omega
 refine jE (bF 7 (bu (aD l)) cZ) ?_;refine jU 16 ?_
 refine ak (ap (uD (aD l) jO) ?_)
 refine jU 511119009009009001 ?_;refine eW (α:=Unit) [11,36,37,38,39,40,41,42,43,44,45,46] (fun _=>[(11,.c (.int .i64 ((ww tag l:Nat):Int)))]) (fun _=>[zu n l 0]) (fun _=>True) (fun _=>rfl) ?_ ?_
 ·refine jU 1216 ?_;refine ay 38 (fun g170=>?_) fun g170=>?_
  rotate_left
  ·refine jU 8103005500444150044 ?_
   refine dh (()) ?_ (h5:=?_) (h7:=?_)
   ·trivial
   ·exact .cons (cI (by unfold ww;(rw [jK]))) .nil
   ·exact aS.refl _
  refine jU 110000000021 ?_;refine ay 42 (fun g170_2=>?_) fun g170_2=>?_
  rotate_left
  ·refine jU 8103005500444 ?_
   refine dh (()) ?_ (h5:=?_) (h7:=?_)
   ·trivial
   ·exact .cons (cI (by unfold ww;(rw [jK]))) .nil
   ·exact aS.refl _
  refine jU 5100000000211 ?_;refine aq (fun h170=>?_) fun h170=>?_
  rotate_left
  ·refine jU 810 ?_
   refine dh (()) ?_ (h5:=?_) (h7:=?_)
   ·trivial
   ·exact .cons (cI (by unfold ww;(rw [jK]))) .nil
   ·exact aS.refl _
  refine jU 851200 ?_
  refine dh (()) ?_ (h5:=?_) (h7:=?_)
  ·trivial
  ·exact .cons (cI (by unfold ww;(rw [if_pos ⟨by omega,by omega,by omega⟩];rfl))) .nil
  ·exact aS.refl _
 ·rintro u _
  refine jU 52167 ?_;refine aq (fun h173=>?_) fun h173=>?_
  ·have hN:=Lz (tag:=tag) (l:=l) jO
   refine jU 10040116 ?_
   refine ar (bh 1 (uC l (ac tag l 0).k) ?_ ?_)
   ·exact (fun j hj=>by rcases j with _|_|j <;> first|exact cZ|exact cI (by rw [hN]))
   refine jU 30007000511165 ?_
   rw [hN]
   exact ba (.inl rfl) rfl (er rfl aG aG aG) (ab.tup3 cN cN cZ)
  refine jU 7810 ?_
  obtain ⟨he0,hne⟩:=If (tag:=tag) (l:=l) jO
  have hc:=xq (b:=aD l) jO
  have hN:ac tag l 0=⟨l.set (l.length-1) (ah (aD l)).rest,0,(ah (aD l)).tag,(ah (aD l)).body,(aD l).take ((aD l).length-(ah (aD l)).rest.length),true⟩:=by unfold ac;rw [jK,jK,jK]
  have hN:ac tag l 0=⟨[]++l.take (l.length-1)++[(ah (aD l)).rest],0,(ah (aD l)).tag,(ah (aD l)).body,(aD l).take ((aD l).length-(ah (aD l)).rest.length),true⟩:=by rw [hN,Qn hl.1];rfl
  refine jI (.rd 0 (.rd 2 (.rd 3 (.rd 4 (.rd 5 (.rd 6 (.rd 7 (.rd 8 (.rd 9 (.rd 10 (.rd 11 (.rd 12 (.rd 14 (.rd 15 (.rd 16 (.two 1 (.two 13 (.one 17 (.one 18 (.rd 19 (.rd 20 (.one 21 .done))))) 17 (.one 13 (.one 18 (.rd 19 (.rd 20 (.one 21 .done)))))) 17 (.one 1 (.one 13 (.one 18 (.rd 19 (.rd 20 (.one 21 .done)))))))))))))))))))))) ?_;refine jU 5000000010000000900000040000050000000100000009000000400000400000 ?_;refine ig Oe ?_;refine ig IJ ?_;refine ig (ss (hl:=(dc _ _)) (hu:=(bY rfl (show _=(((l.length-1):Nat):Int) by omega)))) ?_;refine jU 400000400000 ?_;refine ig (nF (hz1:=(show _=(((yi (aD l)):Nat):Int) by omega))) ?_;refine vj ?_ ?_
  ·refine yW (aU 0 1 cJ fun p1=>?_)
   refine vj ?_ ?_
   ·refine iL (av bW (l:=[]) (l2:=l.take (l.length-1)) rfl rfl rfl rfl (Nat.le_of_eq (Nat.zero_mul _)) (fun j hj=>absurd hj (by simp)) (dj rfl) (by rw [List.length_take];omega) (fun j hj=>ab.of_eq (vg jO)) Tryz.underlying186 dY gQ cJ gW rfl (by simp;omega) (by simp;omega) (fun j hj=>rfl) rfl rfl (Nat.mul_one _) (fun p2=>?_))
    refine zE (bF 69 (bu (ah (aD l)).rest) (ab.bs hc.2.1.symm)) ?_
    refine yW (aU 1 1 cJ fun p3=>?_)
    refine iL (av (bW) (l2:=[(ah (aD l)).rest]) rfl rfl rfl rfl jO (fun _ _=>cZ) (aY rfl (.inl rfl) jD) rfl (fun j hj=>by rcases j with _|j <;> first|exact cZ|(exfalso;simp at hj <;> omega)) Tryz.underlying186 dY gQ cJ gW rfl (by (simp;omega)) (by (simp;omega)) (bi rfl rfl) rfl rfl rfl (fun p4=>?_))
    refine jU 100000009000000 ?_
    refine iL (ax 1 ?_)
    refine jU 78700000 ?_
    first
     |(refine jE (freeze 1 rfl) ?_;refine jE (thawC 0 0 1 (uC ([]++l.take (l.length-1)++[(ah (aD l)).rest]) 0) (fun i _=>bu (([]++l.take (l.length-1)++[(ah (aD l)).rest]).getD i [])) rfl rfl cZ cZ (fun j hj h0=>by rcases j with _|_|j <;> first|omega|exact cZ) (by simp) (fun a c ha hc=>by obtain rfl:c=0:=jO;rw [Nat.zero_add,Nat.mul_one,Nat.add_zero];exact cZ)) ?_;dsimp only [List.set_cons_zero,List.set_cons_succ,List.cons_append,List.nil_append,List.length_cons,List.length_nil,Nat.zero_add,Nat.reduceAdd])
     |(refine jE (freeze 2 rfl) ?_;refine jE (thawC 0 0 2 (uC ([]++l.take (l.length-1)++[(ah (aD l)).rest]) 0) (fun i _=>bu (([]++l.take (l.length-1)++[(ah (aD l)).rest]).getD i [])) rfl rfl cZ cZ (fun j hj h0=>by rcases j with _|_|j <;> first|omega|exact cZ) (by simp) (fun a c ha hc=>by obtain rfl:c=0:=jO;rw [Nat.zero_add,Nat.mul_one,Nat.add_zero];exact cZ)) ?_;dsimp only [List.set_cons_zero,List.set_cons_succ,List.cons_append,List.nil_append,List.length_cons,List.length_nil,Nat.zero_add,Nat.reduceAdd])
    refine ff (.rd 0 (.rd 1 (.rd 2 (.rd 3 (.rd 4 (.rd 5 (.rd 6 (.rd 7 (.rd 8 (.rd 9 .done)))))))))) ?_;refine jU 707070 ?_;refine bV (IF (hz1:=(show _=(((nu (aD l)):Nat):Int) by omega)) (hz2:=(show _=(((yi (aD l)):Nat):Int) by omega))) ?_;refine jU 7070 ?_;refine bV (tH (hz2:=(show _=(((yi (aD l)):Nat):Int) by omega))) ?_;refine jU 7000880707070 ?_
    rw [hN]
    refine ba (.inl rfl) rfl (er rfl aG aG aG) (ab.tup3 (ab.bs ?_) (ab.bs ?_) cZ)
    ·exact hc.1.symm
    ·rw [kF jO]
   ·refine zE (bF 69 (bu (ah (aD l)).rest) (ab.bs hc.2.1.symm)) ?_
    refine yW (aU 1 1 cJ fun p2=>?_)
    refine iL (av bW (l:=[]) (l2:=l.take (l.length-1)) rfl rfl rfl rfl (Nat.le_of_eq (Nat.zero_mul _)) (fun j hj=>absurd hj (by simp)) (dj rfl) (by rw [List.length_take];omega) (fun j hj=>ab.of_eq (vg jO)) Tryz.underlying186 dY gQ cJ gW rfl (by simp;omega) (by simp;omega) (fun j hj=>rfl) rfl rfl (Nat.mul_one _) (fun p3=>?_))
    refine iL (av (bW) (l2:=[(ah (aD l)).rest]) rfl rfl rfl rfl jO (fun _ _=>cZ) (aY rfl (.inl rfl) jD) rfl (fun j hj=>by rcases j with _|j <;> first|exact cZ|(exfalso;simp at hj <;> omega)) Tryz.underlying186 dY gQ cJ gW rfl (by (simp;omega)) (by (simp;omega)) (bi rfl rfl) rfl rfl rfl (fun p4=>?_))
    refine jU 100000009000000 ?_
    refine iL (ax 1 ?_)
    refine jU 78700000 ?_
    first
     |(refine jE (freeze 1 rfl) ?_;refine jE (thawC 0 0 1 (uC ([]++l.take (l.length-1)++[(ah (aD l)).rest]) 0) (fun i _=>bu (([]++l.take (l.length-1)++[(ah (aD l)).rest]).getD i [])) rfl rfl cZ cZ (fun j hj h0=>by rcases j with _|_|j <;> first|omega|exact cZ) (by simp) (fun a c ha hc=>by obtain rfl:c=0:=jO;rw [Nat.zero_add,Nat.mul_one,Nat.add_zero];exact cZ)) ?_;dsimp only [List.set_cons_zero,List.set_cons_succ,List.cons_append,List.nil_append,List.length_cons,List.length_nil,Nat.zero_add,Nat.reduceAdd])
     |(refine jE (freeze 2 rfl) ?_;refine jE (thawC 0 0 2 (uC ([]++l.take (l.length-1)++[(ah (aD l)).rest]) 0) (fun i _=>bu (([]++l.take (l.length-1)++[(ah (aD l)).rest]).getD i [])) rfl rfl cZ cZ (fun j hj h0=>by rcases j with _|_|j <;> first|omega|exact cZ) (by simp) (fun a c ha hc=>by obtain rfl:c=0:=jO;rw [Nat.zero_add,Nat.mul_one,Nat.add_zero];exact cZ)) ?_;dsimp only [List.set_cons_zero,List.set_cons_succ,List.cons_append,List.nil_append,List.length_cons,List.length_nil,Nat.zero_add,Nat.reduceAdd])
    refine ff (.rd 0 (.rd 1 (.rd 2 (.rd 3 (.rd 4 (.rd 5 (.rd 6 (.rd 7 (.rd 8 (.rd 9 .done)))))))))) ?_;refine jU 707070 ?_;refine bV (IF (hz1:=(show _=(((nu (aD l)):Nat):Int) by omega)) (hz2:=(show _=(((yi (aD l)):Nat):Int) by omega))) ?_;refine jU 7070 ?_;refine bV (tH (hz2:=(show _=(((yi (aD l)):Nat):Int) by omega))) ?_;refine jU 7000880707070 ?_
    rw [hN]
    refine ba (.inl rfl) rfl (er rfl aG aG aG) (ab.tup3 (ab.bs ?_) (ab.bs ?_) cZ)
    ·exact hc.1.symm
    ·rw [kF jO]
  ·refine zE (bF 69 (bu (ah (aD l)).rest) (ab.bs hc.2.1.symm)) ?_
   refine yW (aU 1 1 cJ fun p1=>?_)
   refine yW (aU 0 1 cJ fun p2=>?_)
   refine iL (av bW (l:=[]) (l2:=l.take (l.length-1)) rfl rfl rfl rfl (Nat.le_of_eq (Nat.zero_mul _)) (fun j hj=>absurd hj (by simp)) (dj rfl) (by rw [List.length_take];omega) (fun j hj=>ab.of_eq (vg jO)) Tryz.underlying186 dY gQ cJ gW rfl (by simp;omega) (by simp;omega) (fun j hj=>rfl) rfl rfl (Nat.mul_one _) (fun p3=>?_))
   refine iL (av (bW) (l2:=[(ah (aD l)).rest]) rfl rfl rfl rfl jO (fun _ _=>cZ) (aY rfl (.inl rfl) jD) rfl (fun j hj=>by rcases j with _|j <;> first|exact cZ|(exfalso;simp at hj <;> omega)) Tryz.underlying186 dY gQ cJ gW rfl (by (simp;omega)) (by (simp;omega)) (bi rfl rfl) rfl rfl rfl (fun p4=>?_))
   refine jU 100000009000000 ?_
   refine iL (ax 1 ?_)
   refine jU 78700000 ?_
   first
    |(refine jE (freeze 1 rfl) ?_;refine jE (thawC 0 0 1 (uC ([]++l.take (l.length-1)++[(ah (aD l)).rest]) 0) (fun i _=>bu (([]++l.take (l.length-1)++[(ah (aD l)).rest]).getD i [])) rfl rfl cZ cZ (fun j hj h0=>by rcases j with _|_|j <;> first|omega|exact cZ) (by simp) (fun a c ha hc=>by obtain rfl:c=0:=jO;rw [Nat.zero_add,Nat.mul_one,Nat.add_zero];exact cZ)) ?_;dsimp only [List.set_cons_zero,List.set_cons_succ,List.cons_append,List.nil_append,List.length_cons,List.length_nil,Nat.zero_add,Nat.reduceAdd])
    |(refine jE (freeze 2 rfl) ?_;refine jE (thawC 0 0 2 (uC ([]++l.take (l.length-1)++[(ah (aD l)).rest]) 0) (fun i _=>bu (([]++l.take (l.length-1)++[(ah (aD l)).rest]).getD i [])) rfl rfl cZ cZ (fun j hj h0=>by rcases j with _|_|j <;> first|omega|exact cZ) (by simp) (fun a c ha hc=>by obtain rfl:c=0:=jO;rw [Nat.zero_add,Nat.mul_one,Nat.add_zero];exact cZ)) ?_;dsimp only [List.set_cons_zero,List.set_cons_succ,List.cons_append,List.nil_append,List.length_cons,List.length_nil,Nat.zero_add,Nat.reduceAdd])
   refine ff (.rd 0 (.rd 1 (.rd 2 (.rd 3 (.rd 4 (.rd 5 (.rd 6 (.rd 7 (.rd 8 (.rd 9 .done)))))))))) ?_;refine jU 707070 ?_;refine bV (IF (hz1:=(show _=(((nu (aD l)):Nat):Int) by omega)) (hz2:=(show _=(((yi (aD l)):Nat):Int) by omega))) ?_;refine jU 7070 ?_;refine bV (tH (hz2:=(show _=(((yi (aD l)):Nat):Int) by omega))) ?_;refine jU 7000880707070 ?_
   rw [hN]
   refine ba (.inl rfl) rfl (er rfl aG aG aG) (ab.tup3 (ab.bs ?_) (ab.bs ?_) cZ)
   ·exact hc.1.symm
   ·rw [kF jO]
end
section
variable {gs:List Nat} [fZ gs]
open Go.RowKit Cal

theorem jA {b:List UInt8} {x y:Int} (h:(aI b x y).2=0):(aI b x y).1=(bT b).1:=by
 unfold aI at h ⊢
 split
 ·rename_i h1;rw [if_pos h1] at h;exact absurd h h1
 ·split
  ·rename_i h1 h2;rw [if_neg h1,if_pos h2] at h;exact absurd h jD
  ·rfl
theorem said_34 {a:AA} (h:a.kind=3∨a.kind=4) (b:List UInt8):saidM a b=(vN (aI b a.least a.most).1,(aI b a.least a.most).2):=by
 unfold saidM
 rcases h with h|h
 ·rw [if_pos h]
 ·rw [jK,if_pos h]
theorem F7 {b:List UInt8} (h:(fg b).2=0):cC (fg b).1=true:=by
 unfold fg at h ⊢
 split at h
 ·cases h
 ·rename_i h1
  rw [if_neg h1]
  split at h
  ·rename_i h2;exact absurd h h2
  ·rename_i h2
   rw [if_neg h2]
   split at h
   ·cases h
   ·rename_i h3
    rw [if_neg h3]
    simpa using h3
def iJ (a:AA) (b:List UInt8):CV→List (Option Nat×bp)→Prop:=fun r H'=>(∃ v,r=.tup 2 (fl [jY v,.c (.int .i64 ((saidM a b).2:Nat))])∧((saidM a b).2=0→v=(saidM a b).1))∧H'=[]
end
section
variable {gs:List Nat} [fZ gs]
open Go.RowKit Cal

theorem pc {tag:Int} {l:List (List UInt8)} {k:Nat} (h:k≠0):ac tag l k=⟨l,k,0,[],[],false⟩:=by unfold ac;rw [if_pos h]
theorem E0 {a:AA} {l:List (List UInt8)} {k:Nat} (h:k≠0):aa a l k=⟨l,k,VV.none⟩:=by
 have hm:cn l k=false:=by unfold cn;simp [h]
 have he:ag a.tag l k=⟨l,k,0,[],[],false⟩:=by unfold ag;rw [hm,if_neg (by simp)];exact pc h
 unfold aa
 split
 ·unfold an;rw [he];rfl
 ·split
  ·have:bc l k=k:=by unfold bc;rw [if_pos h]
   unfold cQ
   rw [this,if_neg h]
  ·split
   ·rw [pc h];rfl
   ·unfold eI dX
    rw [pc h]
    simp
theorem Nr {a:AA} (h1:3≤a.kind) (h2:a.kind≤9):fl [CV.c (.int .i64 2),.c (.int .i64 10),.c (.int .i64 1),.c (.int .i64 4),.c (.int .i64 12),.c (.int .i64 6),.c (.int .i64 24)] ((a.kind-3).toNat)=.c (.int .i64 (bO a)):=by
 obtain h|h|h|h|h|h|h:a.kind=3∨a.kind=4∨a.kind=5∨a.kind=6∨a.kind=7∨a.kind=8∨a.kind=9:=by omega
 all_goals (unfold bO;rw [h];rfl)
theorem IA {l:List (List UInt8)} {m i:Nat} (h:i<m):bu (l.getD (0+i) [])=bu ((l.take m).getD i []):=by
 simp [List.getD_eq_getElem?_getD,h]
theorem sV {a:AA} {l:List (List UInt8)} (h:a.kind=1) (h0:¬(cn l 0=true∧bG a.tag=false)):aa a l 0=⟨if (ac a.tag l 0).is=true then (ac a.tag l 0).l++[(ac a.tag l 0).body] else (ac a.tag l 0).l,(ac a.tag l 0).k,vI (ac a.tag l 0).is⟩:=by
 have hE:ag a.tag l 0=ac a.tag l 0:=by unfold ag;rw [if_neg h0]
 unfold aa an
 rw [if_pos h,hE]
theorem E1 {a:AA} {l:List (List UInt8)} (h:a.kind=1) (h0:cn l 0=true∧bG a.tag=false):aa a l 0=⟨l,5,vI false⟩:=by
 have hE:ag a.tag l 0=⟨l,5,0,[],[],false⟩:=by unfold ag;rw [if_pos h0];exact pc jD
 unfold aa an
 rw [if_pos h,hE]
 rfl
theorem et {a:AA} {l:List (List UInt8)} (h:a.kind=2) {e:Nat} (he:bc l 0=e):aa a l 0=⟨if e=0 then l.take (l.length-1) else l,e,VV.none⟩:=by
 unfold aa cQ
 rw [jK,if_pos h,he]
theorem gy {a:AA} {l:List (List UInt8)} (h1:a.kind≠1) (h2:a.kind≠2) (h3:a.kind≠11):aa a l 0=eI (bO a) (saidM a) l 0:=by
 unfold aa
 rw [if_neg h1,if_neg h2,if_neg h3]
set_option maxHeartbeats 2000000 in
theorem nZ {gs:List Nat} (n:Nat) (l:List (List UInt8)) (k:Nat) (a:AA) (hl:0<l.length∧l.length≤1000000) (hb:(aD l).length≤1000000) (hS:a.kind≠1→a.kind≠2→a.kind≠11→∀ b:List UInt8,b.length≤1000000→AC gs Tryz.prog 151 [] [J7 a,bu b] (iJ a b)):AC gs Tryz.prog 77 [zu n l k] [.op 0 (some n) 0,J7 a] (fun r H'=>r=jY (aa a l k).v∧H'=[zu n (aa a l k).l (aa a l k).k]):=by
 have hbd:=ew (aD l)
 have hn1:(ac a.tag l 0).l.length=l.length:=pb
 have hbb:(ac (bO a) l 0).body.length≤1000000:=by
  unfold ac
  repeat' split
  all_goals (simp only [List.length_nil];omega)
 refine ai 160 Tryz.func77 fun al w0 F0 St0=>?_;refine cy ?_
 refine ak (cE 4 fun p1=>?_)
 refine ak (bD (n:=5) cK rfl fun p2=>?_)
 refine jU 65 ?_;refine jq (ae (n:=5) rfl cK dL rfl rfl) ?_
 refine ak (bD (n:=5) cK rfl fun p3=>?_)
 refine ar (ax 5 ?_)
 refine jU 5250100401675 ?_;refine aq (fun h199=>?_) fun h199=>?_
 ·refine cy ?_;refine eL (aV 5) ?_
  refine ar (ax 5 ?_)
  refine jU 300070005 ?_
  rw [E0 jO]
  exact ba (.inl rfl) rfl (aA rfl (bz 5)) (ab.agg rfl (fun j hj=>by rcases j with _|_|_|_|_|j <;> first|exact cZ|exact cN|omega))
 refine jU 7810 ?_
 obtain rfl:k=0:=by omega
 refine jE (freeze 1 rfl) ?_;refine jE (iP 3 (m:=4) rfl rfl jD) ?_
 dsimp only [List.set_cons_zero,List.set_cons_succ,List.cons_append,List.nil_append,List.length_cons,List.length_nil,Nat.zero_add,Nat.reduceAdd]
 refine jU 512620560906 ?_;refine aq (fun h203=>?_) fun h203=>?_
 ·refine jU 77 ?_;refine ff (.rd 0 (.rd 1 (.rd 2 (.rd 3 (.rd 4 (.rd 5 (.rd 6 (.rd 7 (.rd 8 (.rd 9 (.rd 10 (.rd 11 (.rd 12 (.rd 13 (.rd 14 (.rd 15 (.rd 16 (.one 17 (.rd 18 (.rd 19 .done)))))))))))))))))))) ?_;refine jU 3000020000100009000005000070100009000005000070 ?_;refine bV (fb (i:=(l.length-1)) (hz:=by omega)) ?_;refine jU 708002000070000 ?_;refine gG 44 (fun g204=>?_) fun g204=>?_
  rotate_left
  ·refine jU 600600 ?_;refine pY ?_;refine jU 810300880300000600 ?_
   have hR:=sV (a:=a) (l:=l) jO (by simp_all [cn,bG,aD])
   refine jU 6010016 ?_
   refine ar (aJ 0 (iY n l 0 a.tag hl jO) ?_)
   refine jU 516751119009009001 ?_;refine aq (fun h209=>?_) fun h209=>?_
   rotate_left
   ·refine jU 810 ?_
    first
     |(refine jE (freeze 4 rfl) ?_;refine jE (thawC 0 0 4 (uC ([]++(ac a.tag l 0).l++[(ac a.tag l 0).body]) (ac a.tag l 0).k) (fun i _=>bu (([]++(ac a.tag l 0).l++[(ac a.tag l 0).body]).getD i [])) rfl rfl cZ cZ (fun j hj h0=>by rcases j with _|_|j <;> first|omega|exact cZ) (by simp) (fun a c ha hc=>by obtain rfl:c=0:=jO;rw [Nat.zero_add,Nat.mul_one,Nat.add_zero];exact cZ)) ?_;dsimp only [List.set_cons_zero,List.set_cons_succ,List.cons_append,List.nil_append,List.length_cons,List.length_nil,Nat.zero_add,Nat.reduceAdd];have hL:(if (ac a.tag l 0).is=true then (ac a.tag l 0).l++[(ac a.tag l 0).body] else (ac a.tag l 0).l)=[]++(ac a.tag l 0).l++[(ac a.tag l 0).body]:=by rw [if_pos (by simpa using h209)];rfl)
     |(have hL:(if (ac a.tag l 0).is=true then (ac a.tag l 0).l++[(ac a.tag l 0).body] else (ac a.tag l 0).l)=(ac a.tag l 0).l:=by rw [if_neg (by simpa using h209)])
    refine jU 16 ?_;refine jq (ae (n:=5) rfl cK dL rfl rfl) ?_
    refine ar (ax 5 ?_)
    refine jU 3000500070005 ?_
    rw [hR,hL]
    exact ba (.inl rfl) rfl (aA rfl (bz 5)) (ab.agg rfl (fun j hj=>by rcases j with _|_|_|_|_|j <;> first|exact cZ|exact cN|omega))
   refine jU 1200 ?_
   refine ak (aU 0 1 cJ fun p5=>?_)
   refine jU 5090401 ?_
   refine ar (av (l:=[]) ( bW) rfl rfl rfl rfl (Nat.le_of_eq (Nat.zero_mul _)) (fun j hj=>absurd hj (by simp)) (dj rfl) rfl (fun j hj=>by (simp only [Nat.div_one];exact cZ)) Tryz.underlying186 dY gQ cJ gW rfl (by (simp;omega)) (by (simp;omega)) (fun j hj=>rfl) rfl rfl rfl (fun p6=>?_))
   refine jU 1 ?_
   refine ak (aU 1 1 cJ fun p7=>?_)
   refine ar (av (bW) (l2:=[(ac a.tag l 0).body]) rfl rfl rfl rfl (by exact Nat.le_refl _) (fun _ _=>cZ) (aY rfl (.inl rfl) jD) rfl (fun j hj=>by rcases j with _|j <;> first|exact cZ|(exfalso;simp at hj <;> omega)) Tryz.underlying186 dY gQ cJ gW rfl (by (simp;omega)) (by (simp;omega)) (bi rfl rfl) rfl rfl rfl (fun p8=>?_))
   refine jU 9040 ?_
   refine ar (ax 1 ?_)
   refine jU 85 ?_
   first
    |(refine jE (freeze 4 rfl) ?_;refine jE (thawC 0 0 4 (uC ([]++(ac a.tag l 0).l++[(ac a.tag l 0).body]) (ac a.tag l 0).k) (fun i _=>bu (([]++(ac a.tag l 0).l++[(ac a.tag l 0).body]).getD i [])) rfl rfl cZ cZ (fun j hj h0=>by rcases j with _|_|j <;> first|omega|exact cZ) (by simp) (fun a c ha hc=>by obtain rfl:c=0:=jO;rw [Nat.zero_add,Nat.mul_one,Nat.add_zero];exact cZ)) ?_;dsimp only [List.set_cons_zero,List.set_cons_succ,List.cons_append,List.nil_append,List.length_cons,List.length_nil,Nat.zero_add,Nat.reduceAdd];have hL:(if (ac a.tag l 0).is=true then (ac a.tag l 0).l++[(ac a.tag l 0).body] else (ac a.tag l 0).l)=[]++(ac a.tag l 0).l++[(ac a.tag l 0).body]:=by rw [if_pos (by simpa using h209)];rfl)
    |(have hL:(if (ac a.tag l 0).is=true then (ac a.tag l 0).l++[(ac a.tag l 0).body] else (ac a.tag l 0).l)=(ac a.tag l 0).l:=by rw [if_neg (by simpa using h209)])
   refine jU 16 ?_;refine jq (ae (n:=5) rfl cK dL rfl rfl) ?_
   refine ar (ax 5 ?_)
   refine jU 3000500070005 ?_
   rw [hR,hL]
   exact ba (.inl rfl) rfl (aA rfl (bz 5)) (ab.agg rfl (fun j hj=>by rcases j with _|_|_|_|_|j <;> first|exact cZ|exact cN|omega))
  refine jU 700008000000 ?_
  refine kO (ap (qB a.tag) ?_)
  refine jU 8803000000100000 ?_;refine aq (fun h204=>?_) fun h204=>?_
  ·refine jU 1004016 ?_
   refine ar (bh 1 (uC l 5) ?_ ?_)
   ·exact (fun j hj=>by rcases j with _|_|j <;> exact cZ)
   refine jU 65 ?_;refine eL (aV 5) ?_
   refine ar (ax 5 ?_)
   refine jU 30005000300070005 ?_
   rw [E1 jO (by simp_all [cn,bG,aD])]
   exact ba (.inl rfl) rfl (aA rfl (bz 5)) (ab.agg rfl (fun j hj=>by rcases j with _|_|_|_|_|j <;> first|exact cZ|exact cN|omega))
  refine jU 810 ?_
  have hR:=sV (a:=a) (l:=l) jO (by simp_all [cn,bG,aD])
  refine jU 6010016 ?_
  refine ar (aJ 0 (iY n l 0 a.tag hl jO) ?_)
  refine jU 516751119009009001 ?_;refine aq (fun h209=>?_) fun h209=>?_
  rotate_left
  ·refine jU 810 ?_
   first
    |(refine jE (freeze 4 rfl) ?_;refine jE (thawC 0 0 4 (uC ([]++(ac a.tag l 0).l++[(ac a.tag l 0).body]) (ac a.tag l 0).k) (fun i _=>bu (([]++(ac a.tag l 0).l++[(ac a.tag l 0).body]).getD i [])) rfl rfl cZ cZ (fun j hj h0=>by rcases j with _|_|j <;> first|omega|exact cZ) (by simp) (fun a c ha hc=>by obtain rfl:c=0:=jO;rw [Nat.zero_add,Nat.mul_one,Nat.add_zero];exact cZ)) ?_;dsimp only [List.set_cons_zero,List.set_cons_succ,List.cons_append,List.nil_append,List.length_cons,List.length_nil,Nat.zero_add,Nat.reduceAdd];have hL:(if (ac a.tag l 0).is=true then (ac a.tag l 0).l++[(ac a.tag l 0).body] else (ac a.tag l 0).l)=[]++(ac a.tag l 0).l++[(ac a.tag l 0).body]:=by rw [if_pos (by simpa using h209)];rfl)
    |(have hL:(if (ac a.tag l 0).is=true then (ac a.tag l 0).l++[(ac a.tag l 0).body] else (ac a.tag l 0).l)=(ac a.tag l 0).l:=by rw [if_neg (by simpa using h209)])
   refine jU 16 ?_;refine jq (ae (n:=5) rfl cK dL rfl rfl) ?_
   refine ar (ax 5 ?_)
   refine jU 3000500070005 ?_
   rw [hR,hL]
   exact ba (.inl rfl) rfl (aA rfl (bz 5)) (ab.agg rfl (fun j hj=>by rcases j with _|_|_|_|_|j <;> first|exact cZ|exact cN|omega))
  refine jU 1200 ?_
  refine ak (aU 0 1 cJ fun p5=>?_)
  refine jU 5090401 ?_
  refine ar (av (l:=[]) ( bW) rfl rfl rfl rfl (Nat.le_of_eq (Nat.zero_mul _)) (fun j hj=>absurd hj (by simp)) (dj rfl) rfl (fun j hj=>by (simp only [Nat.div_one];exact cZ)) Tryz.underlying186 dY gQ cJ gW rfl (by (simp;omega)) (by (simp;omega)) (fun j hj=>rfl) rfl rfl rfl (fun p6=>?_))
  refine jU 1 ?_
  refine ak (aU 1 1 cJ fun p7=>?_)
  refine ar (av (bW) (l2:=[(ac a.tag l 0).body]) rfl rfl rfl rfl (by exact Nat.le_refl _) (fun _ _=>cZ) (aY rfl (.inl rfl) jD) rfl (fun j hj=>by rcases j with _|j <;> first|exact cZ|(exfalso;simp at hj <;> omega)) Tryz.underlying186 dY gQ cJ gW rfl (by (simp;omega)) (by (simp;omega)) (bi rfl rfl) rfl rfl rfl (fun p8=>?_))
  refine jU 9040 ?_
  refine ar (ax 1 ?_)
  refine jU 85 ?_
  first
   |(refine jE (freeze 4 rfl) ?_;refine jE (thawC 0 0 4 (uC ([]++(ac a.tag l 0).l++[(ac a.tag l 0).body]) (ac a.tag l 0).k) (fun i _=>bu (([]++(ac a.tag l 0).l++[(ac a.tag l 0).body]).getD i [])) rfl rfl cZ cZ (fun j hj h0=>by rcases j with _|_|j <;> first|omega|exact cZ) (by simp) (fun a c ha hc=>by obtain rfl:c=0:=jO;rw [Nat.zero_add,Nat.mul_one,Nat.add_zero];exact cZ)) ?_;dsimp only [List.set_cons_zero,List.set_cons_succ,List.cons_append,List.nil_append,List.length_cons,List.length_nil,Nat.zero_add,Nat.reduceAdd];have hL:(if (ac a.tag l 0).is=true then (ac a.tag l 0).l++[(ac a.tag l 0).body] else (ac a.tag l 0).l)=[]++(ac a.tag l 0).l++[(ac a.tag l 0).body]:=by rw [if_pos (by simpa using h209)];rfl)
   |(have hL:(if (ac a.tag l 0).is=true then (ac a.tag l 0).l++[(ac a.tag l 0).body] else (ac a.tag l 0).l)=(ac a.tag l 0).l:=by rw [if_neg (by simpa using h209)])
  refine jU 16 ?_;refine jq (ae (n:=5) rfl cK dL rfl rfl) ?_
  refine ar (ax 5 ?_)
  refine jU 3000500070005 ?_
  rw [hR,hL]
  exact ba (.inl rfl) rfl (aA rfl (bz 5)) (ab.agg rfl (fun j hj=>by rcases j with _|_|_|_|_|j <;> first|exact cZ|exact cN|omega))
 refine jU 5126 ?_;refine aq (fun h213=>?_) fun h213=>?_
 ·refine jU 52167519350904016 ?_;refine aq (fun h215=>?_) fun h215=>?_
  ·refine jU 100401200 ?_
   refine ar (bh 1 (uC l 24) ?_ ?_)
   ·exact (fun j hj=>by rcases j with _|_|j <;> exact cZ)
   refine jU 685 ?_;refine eL (aV 5) ?_
   refine ar (ax 5 ?_)
   refine jU 3000500070005 ?_
   first
    | rw [et (e:=24) jO (by unfold bc;rw [if_neg jD,jP]),if_neg jD]
    | rw [et (e:=4) jO (by unfold bc aD;rw [if_neg jD,jK,jP]),if_neg jD]
    | rw [et (e:=0) jO (by unfold bc aD;rw [if_neg jD,jK,jK]),if_pos rfl]
   exact ba (.inl rfl) rfl (aA rfl (bz 5)) (ab.agg rfl (fun j hj=>by rcases j with _|_|_|_|_|j <;> first|exact cZ|exact cN|omega))
  refine jU 150904016 ?_;refine jq (fb (i:=(l.length-1)) (hz:=by omega)) ?_;refine jU 52360 ?_;refine aq (fun h217=>?_) fun h217=>?_
  ·refine jU 100401200 ?_
   refine ar (bh 1 (uC l 4) ?_ ?_)
   ·exact (fun j hj=>by rcases j with _|_|j <;> exact cZ)
   refine jU 685 ?_;refine eL (aV 5) ?_
   refine ar (ax 5 ?_)
   refine jU 3000500070005 ?_
   first
    | rw [et (e:=24) jO (by unfold bc;rw [if_neg jD,jP]),if_neg jD]
    | rw [et (e:=4) jO (by unfold bc aD;rw [if_neg jD,jK,jP]),if_neg jD]
    | rw [et (e:=0) jO (by unfold bc aD;rw [if_neg jD,jK,jK]),if_pos rfl]
   exact ba (.inl rfl) rfl (aA rfl (bz 5)) (ab.agg rfl (fun j hj=>by rcases j with _|_|_|_|_|j <;> first|exact cZ|exact cN|omega))
  refine jU 150904011200 ?_;refine jq (ss (hl:=(dc _ _)) (hu:=(bY rfl (show _=(((l.length-1):Nat):Int) by omega)))) ?_;refine jU 9040 ?_
  refine ar (bh 1 (uC (l.take (l.length-1)) 0) ?_ ?_)
  ·exact (fun j hj=>by rcases j with _|_|j <;> first|exact ab.rs (by rw [List.length_take];omega) (fun i q hi hq=>ab.of_eq (IA hi))|exact cZ)
  refine jU 685 ?_;refine eL (aV 5) ?_
  refine ar (ax 5 ?_)
  refine jU 3000500070005 ?_
  first
   | rw [et (e:=24) jO (by unfold bc;rw [if_neg jD,jP]),if_neg jD]
   | rw [et (e:=4) jO (by unfold bc aD;rw [if_neg jD,jK,jP]),if_neg jD]
   | rw [et (e:=0) jO (by unfold bc aD;rw [if_neg jD,jK,jK]),if_pos rfl]
  exact ba (.inl rfl) rfl (aA rfl (bz 5)) (ab.agg rfl (fun j hj=>by rcases j with _|_|_|_|_|j <;> first|exact cZ|exact cN|omega))
 refine jU 5126 ?_;refine aq (fun h223=>?_) fun h223=>?_
 ·refine jU 16 ?_
  refine ar (aJ 0 (iY n l 0 0 hl jO) ?_)
  refine jU 1651119009009001 ?_;refine jq (ae (n:=5) rfl cK dL rfl rfl) ?_
  refine ar (ax 5 ?_)
  refine jU 3000500070005 ?_
  rw [show aa a l 0=⟨(ac 0 l 0).l,(ac 0 l 0).k,vB (ac 0 l 0).raw⟩ by unfold aa;rw [jK,jK,jP]]
  exact ba (.inl rfl) rfl (aA rfl (bz 5)) (ab.agg rfl (fun j hj=>by rcases j with _|_|_|_|_|j <;> first|exact cZ|omega))
 refine jU 12609067516840010 ?_;refine ay 125 (fun g228=>?_) fun g228=>?_
 rotate_left
 ·refine jU 8103005500444 ?_
  first
   | refine jE (bF 13 (.c (.int .i64 (bO a))) cZ) ?_
   | refine jE (bF 13 (.c (.int .i64 (bO a))) (cI (by unfold bO;rw [jK,jK,jK,jK,jK,jK,jK]))) ?_
  refine jU 116 ?_
  refine ar (aJ 0 (iY n l 0 (bO a) hl jO) ?_)
  refine jU 53016751119009009001 ?_;refine aq (fun h232=>?_) fun h232=>?_
  ·refine cy ?_;refine eL (aV 5) ?_
   refine ar (ax 5 ?_)
   refine jU 300070005 ?_
   rw [gy jO jO jO,show eI (bO a) (saidM a) l 0=⟨(ac (bO a) l 0).l,(ac (bO a) l 0).k,VV.none⟩ by unfold eI dX;rw [if_neg (by simp_all),if_neg (by simp_all)]]
   exact ba (.inl rfl) rfl (aA rfl (bz 5)) (ab.agg rfl (fun j hj=>by rcases j with _|_|_|_|_|j <;> first|exact cZ|exact cN|omega))
  refine jU 810 ?_
  have his:=ma (tag:=bO a) (l:=l) (k:=0) (by simpa using h232)
  have hit:(ac (bO a) l 0).is=true:=by simpa using h232
  refine cy ?_;refine jq (gq 4) ?_;refine jU 1 ?_
  refine ak (su (hS jO jO jO (ac (bO a) l 0).body hbb) ?_)
  rintro _ _ ⟨⟨v,rfl,hv⟩,rfl⟩
  refine jU 9009001 ?_
  refine ak (bD (n:=5) cK rfl fun p5=>?_)
  refine ar (ax 5 ?_)
  refine jU 5216751 ?_;refine aq (fun h236=>?_) fun h236=>?_
  rotate_left
  ·refine jU 6810 ?_;refine eL (aV 5) ?_
   refine ar (ax 5 ?_)
   refine jU 70005 ?_
   have he0:(saidM a (ac (bO a) l 0).body).2=0:=by omega
   rw [gy jO jO jO,show eI (bO a) (saidM a) l 0=⟨(ac (bO a) l 0).l,(ac (bO a) l 0).k,v⟩ by unfold eI dX;rw [if_pos hit,if_pos ⟨hit,he0⟩,hv he0];show PS.mk _ (saidM a (ac (bO a) l 0).body).2 _=_;rw [he0,his.1]]
   exact ba (.inl rfl) rfl (aA rfl (bz 5)) (ab.agg rfl (fun j hj=>by rcases j with _|_|_|_|_|j <;> first|exact cZ|omega))
  refine jU 10040116 ?_
  refine ar (bh 1 (uC (ac (bO a) l 0).l (saidM a (ac (bO a) l 0).body).2) ?_ ?_)
  ·exact (fun j hj=>by rcases j with _|_|j <;> exact cZ)
  refine jU 65 ?_;refine eL (aV 5) ?_
  refine ar (ax 5 ?_)
  refine jU 300070005 ?_
  rw [gy jO jO jO,show eI (bO a) (saidM a) l 0=⟨(ac (bO a) l 0).l,(saidM a (ac (bO a) l 0).body).2,VV.none⟩ by unfold eI dX;rw [if_pos hit,if_neg (by intro h;omega)]]
  exact ba (.inl rfl) rfl (aA rfl (bz 5)) (ab.agg rfl (fun j hj=>by rcases j with _|_|_|_|_|j <;> first|exact cZ|exact cN|omega))
 refine jU 510000000026090 ?_;refine aq (fun h228=>?_) fun h228=>?_
 rotate_left
 ·refine jU 810 ?_
  first
   | refine jE (bF 13 (.c (.int .i64 (bO a))) cZ) ?_
   | refine jE (bF 13 (.c (.int .i64 (bO a))) (cI (by unfold bO;rw [jK,jK,jK,jK,jK,jK,jK]))) ?_
  refine jU 116 ?_
  refine ar (aJ 0 (iY n l 0 (bO a) hl jO) ?_)
  refine jU 53016751119009009001 ?_;refine aq (fun h232=>?_) fun h232=>?_
  ·refine cy ?_;refine eL (aV 5) ?_
   refine ar (ax 5 ?_)
   refine jU 300070005 ?_
   rw [gy jO jO jO,show eI (bO a) (saidM a) l 0=⟨(ac (bO a) l 0).l,(ac (bO a) l 0).k,VV.none⟩ by unfold eI dX;rw [if_neg (by simp_all),if_neg (by simp_all)]]
   exact ba (.inl rfl) rfl (aA rfl (bz 5)) (ab.agg rfl (fun j hj=>by rcases j with _|_|_|_|_|j <;> first|exact cZ|exact cN|omega))
  refine jU 810 ?_
  have his:=ma (tag:=bO a) (l:=l) (k:=0) (by simpa using h232)
  have hit:(ac (bO a) l 0).is=true:=by simpa using h232
  refine cy ?_;refine jq (gq 4) ?_;refine jU 1 ?_
  refine ak (su (hS jO jO jO (ac (bO a) l 0).body hbb) ?_)
  rintro _ _ ⟨⟨v,rfl,hv⟩,rfl⟩
  refine jU 9009001 ?_
  refine ak (bD (n:=5) cK rfl fun p5=>?_)
  refine ar (ax 5 ?_)
  refine jU 5216751 ?_;refine aq (fun h236=>?_) fun h236=>?_
  rotate_left
  ·refine jU 6810 ?_;refine eL (aV 5) ?_
   refine ar (ax 5 ?_)
   refine jU 70005 ?_
   have he0:(saidM a (ac (bO a) l 0).body).2=0:=by omega
   rw [gy jO jO jO,show eI (bO a) (saidM a) l 0=⟨(ac (bO a) l 0).l,(ac (bO a) l 0).k,v⟩ by unfold eI dX;rw [if_pos hit,if_pos ⟨hit,he0⟩,hv he0];show PS.mk _ (saidM a (ac (bO a) l 0).body).2 _=_;rw [he0,his.1]]
   exact ba (.inl rfl) rfl (aA rfl (bz 5)) (ab.agg rfl (fun j hj=>by rcases j with _|_|_|_|_|j <;> first|exact cZ|omega))
  refine jU 10040116 ?_
  refine ar (bh 1 (uC (ac (bO a) l 0).l (saidM a (ac (bO a) l 0).body).2) ?_ ?_)
  ·exact (fun j hj=>by rcases j with _|_|j <;> exact cZ)
  refine jU 65 ?_;refine eL (aV 5) ?_
  refine ar (ax 5 ?_)
  refine jU 300070005 ?_
  rw [gy jO jO jO,show eI (bO a) (saidM a) l 0=⟨(ac (bO a) l 0).l,(saidM a (ac (bO a) l 0).body).2,VV.none⟩ by unfold eI dX;rw [if_pos hit,if_neg (by intro h;omega)]]
  exact ba (.inl rfl) rfl (aA rfl (bz 5)) (ab.agg rfl (fun j hj=>by rcases j with _|_|_|_|_|j <;> first|exact cZ|exact cN|omega))
 refine QN ?_
 refine ak (aU 7 1 nj fun p4=>?_)
 refine jU 96090 ?_;refine jq (fb (i:=(a.kind-3).toNat) (hz:=by omega)) ?_;refine eL (mS (hv:=Nr jO jO)) ?_;refine jU 851 ?_
 first
  | refine jE (bF 13 (.c (.int .i64 (bO a))) cZ) ?_
  | refine jE (bF 13 (.c (.int .i64 (bO a))) (cI (by unfold bO;rw [jK,jK,jK,jK,jK,jK,jK]))) ?_
 refine jU 116 ?_
 refine ar (aJ 0 (iY n l 0 (bO a) hl jO) ?_)
 refine jU 53016751119009009001 ?_;refine aq (fun h232=>?_) fun h232=>?_
 ·refine cy ?_;refine eL (aV 5) ?_
  refine ar (ax 5 ?_)
  refine jU 300070005 ?_
  rw [gy jO jO jO,show eI (bO a) (saidM a) l 0=⟨(ac (bO a) l 0).l,(ac (bO a) l 0).k,VV.none⟩ by unfold eI dX;rw [if_neg (by simp_all),if_neg (by simp_all)]]
  exact ba (.inl rfl) rfl (aA rfl (bz 5)) (ab.agg rfl (fun j hj=>by rcases j with _|_|_|_|_|j <;> first|exact cZ|exact cN|omega))
 refine jU 810 ?_
 have his:=ma (tag:=bO a) (l:=l) (k:=0) (by simpa using h232)
 have hit:(ac (bO a) l 0).is=true:=by simpa using h232
 refine cy ?_;refine jq (gq 4) ?_;refine jU 1 ?_
 refine ak (su (hS jO jO jO (ac (bO a) l 0).body hbb) ?_)
 rintro _ _ ⟨⟨v,rfl,hv⟩,rfl⟩
 refine jU 9009001 ?_
 refine ak (bD (n:=5) cK rfl fun p6=>?_)
 refine ar (ax 5 ?_)
 refine jU 5216751 ?_;refine aq (fun h236=>?_) fun h236=>?_
 rotate_left
 ·refine jU 6810 ?_;refine eL (aV 5) ?_
  refine ar (ax 5 ?_)
  refine jU 70005 ?_
  have he0:(saidM a (ac (bO a) l 0).body).2=0:=by omega
  rw [gy jO jO jO,show eI (bO a) (saidM a) l 0=⟨(ac (bO a) l 0).l,(ac (bO a) l 0).k,v⟩ by unfold eI dX;rw [if_pos hit,if_pos ⟨hit,he0⟩,hv he0];show PS.mk _ (saidM a (ac (bO a) l 0).body).2 _=_;rw [he0,his.1]]
  exact ba (.inl rfl) rfl (aA rfl (bz 5)) (ab.agg rfl (fun j hj=>by rcases j with _|_|_|_|_|j <;> first|exact cZ|omega))
 refine jU 10040116 ?_
 refine ar (bh 1 (uC (ac (bO a) l 0).l (saidM a (ac (bO a) l 0).body).2) ?_ ?_)
 ·exact (fun j hj=>by rcases j with _|_|j <;> exact cZ)
 refine jU 65 ?_;refine eL (aV 5) ?_
 refine ar (ax 5 ?_)
 refine jU 300070005 ?_
 rw [gy jO jO jO,show eI (bO a) (saidM a) l 0=⟨(ac (bO a) l 0).l,(saidM a (ac (bO a) l 0).body).2,VV.none⟩ by unfold eI dX;rw [if_pos hit,if_neg (by intro h;omega)]]
 exact ba (.inl rfl) rfl (aA rfl (bz 5)) (ab.agg rfl (fun j hj=>by rcases j with _|_|_|_|_|j <;> first|exact cZ|exact cN|omega))
end
section
variable {gs:List Nat}

theorem Qb (N i:Nat) (hi:i≤5) {b:Int} (hb:b=7 * (i:Int)):(N:Int).fdiv (2 ^ (min b.toNat (IntKind.bits .i64)))=((N / 128 ^ i:Nat):Int):=by
 have e:b.toNat=7 * i:=by omega
 rw [e,show min (7 * i) (IntKind.bits .i64)=7 * i from Nat.min_eq_left (by show 7 * i≤64;omega),Int.fdiv_eq_ediv_of_nonneg _ (Int.pow_nonneg jD)]
 rw [show (128:Nat) ^ i=2 ^ (7 * i) by rw [Nat.pow_mul]]
 push_cast
 rfl
def nC (N k:Nat):List UInt8:=if k=0 then dV N else gD (N / 128 ^ k)
theorem Bq (N i:Nat):N / 128 ^ (i+1)=N / 128 ^ i / 128:=by rw [Nat.pow_succ,Nat.div_div_eq_div_mul]
theorem EE {m:Nat} (h:(gD m).length=0):m=0:=by
 by_cases h0:m=0
 ·exact h0
 ·rw [fK h0] at h;simp at h
def lK (q i:Nat):UInt8:=if i=0 then UInt8.ofNat (q % 128) else UInt8.ofNat (q % 128+128)
theorem yo {q i:Nat} (h:0<i):(q:Int) % 128+128=((lK q i).toNat:Nat):=by
 rw [lK,jK];exact (z6 q).symm
theorem yn {q i:Nat} (h:i=0):(q:Int) % 128=((lK q i).toNat:Nat):=by
 rw [lK,if_pos h];exact (Dx q).symm
theorem HR {N i q:Nat} {o:List UInt8} (hq:N / 128 ^ i=q) (ho:o=nC N (i+1)) (h0:0<i) (h:0<q % 128∨0<o.length):o++[UInt8.ofNat (q % 128+128)]=nC N i:=by
 have e1:nC N (i+1)=gD (q / 128):=by unfold nC;rw [jK,Bq,hq]
 have e2:nC N i=gD q:=by unfold nC;rw [jK,hq]
 have hq0:q≠0:=fun e=>by
  rw [e] at h e1
  rw [ho,e1,show (0:Nat) / 128=0 from rfl,eD] at h
  rcases h with h|h
  ·exact absurd h jD
  ·exact absurd h jD
 rw [e2,ho,e1,fK hq0]
theorem Cn {N q:Nat} {o:List UInt8} (hq:N / 128 ^ 0=q) (ho:o=nC N 1):o++[UInt8.ofNat (q % 128)]=nC N 0:=by
 have e0:q=N:=by rw [← hq,Nat.pow_zero,Nat.div_one]
 rw [ho,e0]
 rfl
theorem NV {N i q:Nat} {o:List UInt8} (hq:N / 128 ^ i=q) (ho:o=nC N (i+1)) (h0:0<i) (h1:¬ 0<q % 128) (h2:¬ 0<o.length):o=nC N i:=by
 have e1:nC N (i+1)=gD (q / 128):=by unfold nC;rw [jK,Bq,hq]
 have e2:nC N i=gD q:=by unfold nC;rw [jK,hq]
 have e3:q / 128=0:=EE (by rw [← e1,← ho];omega)
 have e4:q=0:=by omega
 rw [ho,e1,e2,e3,e4]
theorem Lr {N k:Nat} (hN:N<34359738368) (hk:k≤6):(nC N k).length≤5:=by
 unfold nC
 split
 ·exact jt hN
 ·have h1:N / 128 ^ k≤N:=Nat.div_le_self _ _
  exact wT 5 _ jO
set_option maxHeartbeats 1000000 in
theorem DB (N:Nat) (hN:N<34359738368):AC gs Tryz.prog 250 [] [.c (.int .i64 (N:Nat))] (we (dV N).length 1 (dV N).length (ft (dV N))):=by
 refine ai 38 Tryz.func250 fun al w0 F0 St0=>?_;refine jU 6516 ?_
 refine ak (aU 0 1 f7 fun p1=>?_)
 refine jU 20516751 ?_;refine aF (α:=Nat×List UInt8×Option Nat) [3,4,5,7,8,9,10,11,12,13,14,15,16,17,18,19,20,21,22,23,24,25,26,27,28,29,30,31,32,33,34,35,36] (fun (k,o,g)=>[(4,.c (.int .i64 ((k:Int)-1))),(3,.os 0 g 0 o.length 1)]) (fun (k,o,g)=>[(g,.blk o.length (ft o))]) (fun (k,o,g)=>k≤6∧o=nC N k) (fun (k,o,g)=>k) ((6,[],p1)) ?_ (fun _=>rfl) ?_ ?_ ?_
 ·exact ⟨Nat.le_refl _,by unfold nC;rw [if_neg jD,show N / 128 ^ 6=0 by omega,eD]⟩
 ·exact .cons cZ (.cons cZ .nil)
 ·exact .blk rfl (fun j hj=>absurd hj (Nat.not_lt_zero j)) .nil
 ·rintro ⟨k,o,g⟩ ⟨(hk:k≤6),(ho:o=_)⟩
  have hol:o.length≤5:=by rw [ho];exact Lr hN hk
  refine jU 52167 ?_;refine aq (fun h65=>?_) fun h65=>?_
  rotate_left
  ·refine jU 84000200020006000 ?_
   obtain rfl:k=0:=by omega
   obtain rfl:o=dV N:=ho
   refine jU 70005116 ?_
   exact vK 0 (.inl rfl) (aA rfl (aP rfl)) rfl rfl (Nat.le_refl _) (fun _=>rfl) (fun j hj=>cZ)
  refine jU 207810 ?_
  obtain ⟨i,rfl⟩:∃ i,k=i+1:=⟨k-1,by omega⟩
  obtain ⟨q,hq⟩:∃ q,N / 128 ^ i=q:=⟨_,rfl⟩
  refine jU 9116 ?_;refine jq (GA .i64 .u64) ?_;refine jq (uU rfl rfl rfl (by (omega)) ((q:Int)) (by rw [← hq];exact Qb N i jO jO)) ?_;refine jU 1216511000000 ?_;refine ay 19 (fun g67=>?_) fun g67=>?_
  ·refine jU 5216790005100000000441100000000444 ?_;refine aq (fun h68=>?_) fun h68=>?_
   rotate_left
   ·refine jU 80000011200810 ?_
    refine ak (aU 1 1 f7 fun p2=>?_)
    refine ar (bC (l2:=[lK q i]) rfl rfl rfl (Nat.le_refl _) (fun _ _=>cZ) (aY rfl (.inl rfl) jD) rfl (dt (.cons (cI (by exact yn jO)) .nil)) Tryz.underlying22 iM qi f7 rB rfl (by (simp;omega)) (eM rfl rfl) rfl rfl (fun p3=>?_))
    refine jU 85191200840051 ?_
    refine aw ((i,o++[lK q i],p3)) ?_ ?_ (h5:=?_) (h7:=?_)
    ·exact ⟨by omega,by obtain rfl:i=0:=jO;rw [lK,if_pos rfl];exact Cn hq ho⟩
    ·show i<i+1;omega
    ·exact .cons (cI jO) (.cons cZ .nil)
    ·exact .same .nil
   refine jU 8000001120085191200 ?_
   refine ak (aU 1 1 f7 fun p2=>?_)
   refine ar (bC (l2:=[lK q i]) rfl rfl rfl (Nat.le_refl _) (fun _ _=>cZ) (aY rfl (.inl rfl) jD) rfl (dt (.cons (cI (by exact yo jO)) .nil)) Tryz.underlying22 iM qi f7 rB rfl (by (simp;omega)) (eM rfl rfl) rfl rfl (fun p3=>?_))
   refine jU 85191200840051 ?_
   refine aw ((i,o++[lK q i],p3)) ?_ ?_ (h5:=?_) (h7:=?_)
   ·exact ⟨by omega,by (rw [lK,jK];exact HR hq ho jO jO)⟩
   ·show i<i+1;omega
   ·exact .cons (cI jO) (.cons cZ .nil)
   ·exact .same .nil
  refine jU 1500231 ?_;refine ay 24 (fun g67_2=>?_) fun g67_2=>?_
  ·refine jU 521679000510000000044 ?_;refine aq (fun h68=>?_) fun h68=>?_
   rotate_left
   ·refine jU 80000011200810 ?_
    refine ak (aU 1 1 f7 fun p2=>?_)
    refine ar (bC (l2:=[lK q i]) rfl rfl rfl (Nat.le_refl _) (fun _ _=>cZ) (aY rfl (.inl rfl) jD) rfl (dt (.cons (cI (by exact yn jO)) .nil)) Tryz.underlying22 iM qi f7 rB rfl (by (simp;omega)) (eM rfl rfl) rfl rfl (fun p3=>?_))
    refine jU 85191200840051 ?_
    refine aw ((i,o++[lK q i],p3)) ?_ ?_ (h5:=?_) (h7:=?_)
    ·exact ⟨by omega,by obtain rfl:i=0:=jO;rw [lK,if_pos rfl];exact Cn hq ho⟩
    ·show i<i+1;omega
    ·exact .cons (cI jO) (.cons cZ .nil)
    ·exact .same .nil
   refine jU 8000001120085191200 ?_
   refine ak (aU 1 1 f7 fun p2=>?_)
   refine ar (bC (l2:=[lK q i]) rfl rfl rfl (Nat.le_refl _) (fun _ _=>cZ) (aY rfl (.inl rfl) jD) rfl (dt (.cons (cI (by exact yo jO)) .nil)) Tryz.underlying22 iM qi f7 rB rfl (by (simp;omega)) (eM rfl rfl) rfl rfl (fun p3=>?_))
   refine jU 85191200840051 ?_
   refine aw ((i,o++[lK q i],p3)) ?_ ?_ (h5:=?_) (h7:=?_)
   ·exact ⟨by omega,by (rw [lK,jK];exact HR hq ho jO jO)⟩
   ·show i<i+1;omega
   ·exact .cons (cI jO) (.cons cZ .nil)
   ·exact .same .nil
  refine jU 550021 ?_;refine aq (fun h67=>?_) fun h67=>?_
  rotate_left
  ·refine jU 85191200840010 ?_
   refine aw ((i,o,g)) ?_ ?_ (h5:=?_) (h7:=?_)
   ·exact ⟨by omega,NV hq ho jO jO jO⟩
   ·show i<i+1;omega
   ·exact .cons (cI jO) (.cons cZ .nil)
   ·exact .same .nil
  refine jU 52167 ?_;refine aq (fun h68=>?_) fun h68=>?_
  rotate_left
  ·refine jU 80000011200810 ?_
   refine ak (aU 1 1 f7 fun p2=>?_)
   refine ar (bC (l2:=[lK q i]) rfl rfl rfl (Nat.le_refl _) (fun _ _=>cZ) (aY rfl (.inl rfl) jD) rfl (dt (.cons (cI (by exact yn jO)) .nil)) Tryz.underlying22 iM qi f7 rB rfl (by (simp;omega)) (eM rfl rfl) rfl rfl (fun p3=>?_))
   refine jU 85191200840051 ?_
   refine aw ((i,o++[lK q i],p3)) ?_ ?_ (h5:=?_) (h7:=?_)
   ·exact ⟨by omega,by obtain rfl:i=0:=jO;rw [lK,if_pos rfl];exact Cn hq ho⟩
   ·show i<i+1;omega
   ·exact .cons (cI jO) (.cons cZ .nil)
   ·exact .same .nil
  refine jU 8000001120085191200 ?_
  refine ak (aU 1 1 f7 fun p2=>?_)
  refine ar (bC (l2:=[lK q i]) rfl rfl rfl (Nat.le_refl _) (fun _ _=>cZ) (aY rfl (.inl rfl) jD) rfl (dt (.cons (cI (by exact yo jO)) .nil)) Tryz.underlying22 iM qi f7 rB rfl jO (eM rfl rfl) rfl rfl (fun p3=>?_))
  refine jU 85191200840051 ?_
  refine aw ((i,o++[lK q i],p3)) ?_ ?_ (h5:=?_) (h7:=?_)
  ·exact ⟨by omega,by (exfalso;omega)⟩
  ·show i<i+1;omega
  ·exact .cons (cI jO) (.cons cZ .nil)
  ·exact .same .nil
set_option maxHeartbeats 1000000 in
theorem Hi (l:List Int) (hr:cC l=true):bM gs Tryz.prog 213 [wl l] (bu (yI l)):=by
 obtain ⟨hl2,hl16,hall,ha,hb⟩:=ip hr
 have h0:=hall _ (de (l:=l) (k:=0) 0 jO)
 have h1:=hall _ (de (l:=l) (k:=1) 0 jO)
 refine ai 28 Tryz.func213 fun al w0 F0 St0=>?_;refine jU 7516 ?_;refine ff (.rd 0 (.rd 1 (.rd 2 (.rd 3 (.rd 4 (.rd 5 (.rd 6 (.rd 7 (.one 8 (.rd 9 .done)))))))))) ?_;refine jU 70 ?_;refine bV (fb (i:=0)) ?_;refine jU 703000070000 ?_;refine bV (fb (i:=1)) ?_;refine jU 3000070000 ?_
 refine kO (FP (DB (40 * l.getD 0 0+l.getD 1 0).toNat jO) (fun p1=>?_) (ho:=rfl) (he:=(.cons (se rfl (cI jO)) .nil)))
 refine jU 16788070 ?_;refine jq (ss (hl:=(bY rfl (show (2:Int)=((2:Nat):Int) from rfl))) (hu:=(dc _ _))) ?_;refine jU 20513 ?_;refine aF (α:=Nat×List UInt8×Option Nat) [3,5,18,19,20,21,22,23,24,25,26] (fun (i,o,g)=>[(3,.os 0 g 0 o.length 1),(18,.c (.int .i64 (i:Nat)))]) (fun (i,o,g)=>[(g,.blk o.length (ft o))]) (fun (i,o,g)=>i≤l.length-2∧o=dV (40 * l.getD 0 0+l.getD 1 0).toNat++(((l.drop 2).take i).map fun n=>dV n.toNat).flatten) (fun (i,o,g)=>l.length-i) ((0,dV (40 * l.getD 0 0+l.getD 1 0).toNat,p1)) ?_ (fun _=>rfl) ?_ ?_ ?_
 ·exact ⟨Nat.zero_le _,by simp⟩
 ·exact .cons cZ (.cons cZ .nil)
 ·exact .same .nil
 ·rintro ⟨i,o,g⟩ ⟨(hi:i≤l.length-2),ho⟩
  have hol:o.length≤5+5 * i:=by
   rw [ho,List.length_append]
   have e1:=jt (n:=(40 * l.getD 0 0+l.getD 1 0).toNat) jO
   have e2:=mx (l:=(l.drop 2).take i) (fun n hn=>hall n (List.mem_of_mem_drop (List.mem_of_mem_take hn)))
   rw [List.length_take,List.length_drop] at e2
   omega
  refine jU 7526 ?_;refine aq (fun h80=>?_) fun h80=>?_
  rotate_left
  ·refine jU 511684000200020006000 ?_;refine jE (freeze 0 rfl) ?_;refine jE (kE 2 (o) rfl rfl (by rfl) rfl) ?_;refine jU 80007000 ?_;refine ab.bs ?_
   rw [ho,List.take_of_length_le (by rw [List.length_drop];omega)]
   rfl
  refine jU 51607006207810 ?_
  have h3:=hall _ (de (l:=l) (k:=2+i) 0 jO)
  have h4:=jt (n:=(l.getD (2+i) 0).toNat) jO
  refine jU 11200 ?_
  refine ak (FP (DB (l.getD (2+i) 0).toNat jO) (fun p2=>?_) (ho:=rfl) (he:=(.cons (se rfl (cI jO)) .nil)))
  refine ar (bC rfl rfl rfl (Nat.le_refl _) (fun _ _=>cZ) (aY rfl (.inl rfl) jO) rfl (fun j hj=>by rw [Nat.zero_add];exact cZ) Tryz.underlying22 iM qi f7 rB rfl jO (fun j hj=>rfl) rfl rfl (fun p3=>?_))
  refine jU 8519200840051 ?_
  refine aw ((i+1,o++dV (l.getD (2+i) 0).toNat,p3)) ?_ ?_ (h5:=?_) (h7:=?_)
  ·exact ⟨by omega,by rw [ho,zZ (by rw [List.length_drop];omega),List.append_assoc]⟩
  ·show l.length-(i+1)<l.length-i;omega
  ·exact .cons cZ (.cons (cI jO) .nil)
  ·exact .same .nil

theorem wM {c:UInt8} (x:List UInt8):∀ l:List (List UInt8),l≠[]→iR c (l++[x])=iR c l++c::x
 | [],h=>absurd rfl h
 | [p],_=>rfl
 | p::q::r,_=>by
  have ih:=wM (c:=c) x (q::r) (by simp)
  rw [List.cons_append,List.cons_append,iR,← List.cons_append,ih,iR,List.append_assoc];rfl
theorem zO {l:List Int} {i:Nat} (h:i<l.length):kh (l.take (i+1))=if 0<i then kh (l.take i)++[46]++kY (l.getD i 0).toNat else kY (l.getD i 0).toNat:=by
 unfold kh
 rw [zY h]
 split
 ·rename_i h0
  rw [wM _ _ (by intro e;have:=congrArg List.length e;rw [List.length_map,List.length_take,List.length_nil] at this;omega)]
  simp
 ·rename_i h0
  obtain rfl:i=0:=by omega
  rfl
theorem EQ (l:List Int) (hr:cC l=true):bM gs Tryz.prog 208 [wl l] (au (kh l)):=by
 obtain ⟨hl2,hl16,hall,ha,hb⟩:=ip hr
 refine ai 23 Tryz.func208 fun al w0 F0 St0=>?_;refine jU 20513167516516 ?_;refine aF (α:=Nat) [3,4,5,8,9,10,11,12,13,14,15,16,17,18,19,20,21] (fun i=>[(8,.c (.int .i64 (i:Nat))),(3,au (kh (l.take i)))]) (fun _=>[]) (fun i=>i≤l.length) (fun i=>l.length-i) (0) ?_ (fun _=>rfl) ?_ ?_ ?_
 ·exact Nat.zero_le _
 ·(repeat (first|exact bZ.nil|refine bZ.cons cZ ?_))
 ·(repeat (exact aS.nil))
 ·rintro i (hi:i≤l.length)
  have hj:=vn (c:=46) (m:=10) (ls:=(l.take i).map fun n=>kY n.toNat) (fun p hp=>by
   obtain ⟨n,hn,rfl⟩:=List.mem_map.1 hp
   exact kr 9 n.toNat (by have:=hall n (List.mem_of_mem_take hn);omega))
  have hj2:(kh (l.take i)).length≤11 * 16:=by
   rw [List.length_map,List.length_take] at hj
   unfold kh;omega
  refine jU 7526 ?_;refine aq (fun h53=>?_) fun h53=>?_
  rotate_left
  ·refine jU 511684000200020006000 ?_
   refine jR (cX (hv:=ab.strL (by rw [show i=l.length by omega,List.take_length])))
  refine jU 521675116070016207810 ?_;refine aq (fun h54=>?_) fun h54=>?_
  rotate_left
  ·refine jU 810 ?_
   have hn:=hall _ (de (l:=l) (k:=i) 0 jO)
   have hd:=kr 9 (l.getD i 0).toNat jO
   refine jU 11200 ?_
   refine ak (ap (yw (l.getD i 0).toNat jO) ?_ (ho:=rfl) (he:=(.cons (se rfl (cI jO)) .nil)))
   refine jq (II (hS:=by (omega))) ?_;refine jU 8519200840051 ?_
   refine aw (i+1) ?_ ?_ (h5:=?_)
   ·show i+1≤l.length;omega
   ·show l.length-(i+1)<l.length-i;omega
   ·exact .cons (cI jO) (.cons (ab.strL (by rw [zO jO];(rw [jK];obtain rfl:i=0:=jO;rfl))) .nil)
  refine jU 1200 ?_;refine jq (II (hS:=by ((simp only [List.length_cons,List.length_nil];omega)))) ?_;refine jU 851 ?_
  have hn:=hall _ (de (l:=l) (k:=i) 0 jO)
  have hd:=kr 9 (l.getD i 0).toNat jO
  refine jU 11200 ?_
  refine ak (ap (yw (l.getD i 0).toNat jO) ?_ (ho:=rfl) (he:=(.cons (se rfl (cI jO)) .nil)))
  refine jq (II (hS:=by ((simp only [List.length_append,List.length_cons,List.length_nil];omega)))) ?_;refine jU 8519200840051 ?_
  refine aw (i+1) ?_ ?_ (h5:=?_)
  ·show i+1≤l.length;omega
  ·show l.length-(i+1)<l.length-i;omega
  ·exact .cons (cI jO) (.cons (ab.strL (by rw [zO jO];rw [jP])) .nil)
end
section
open Go.RowKit Cal
set_option maxHeartbeats 1000000 in
theorem B3 {gs:List Nat} (a:AA) (b:List UInt8) (h78:a.kind=7∨a.kind=8) (hb:b.length≤1000000):AC gs Tryz.prog 151 [] [J7 a,bu b] (iJ a b):=by
 refine ai 126 Tryz.func151 fun al w0 F0 St0=>?_;refine cy ?_
 refine ak (cE 4 fun p1=>?_)
 refine ak (bD (n:=5) cK rfl fun p2=>?_)
 refine jU 5126720550906751 ?_;refine aq (fun h246=>?_) fun h246=>?_
 ·exfalso;omega
 refine jU 8512200 ?_;refine aq (fun h246_2=>?_) fun h246_2=>?_
 ·exfalso;omega
 refine jU 5126 ?_;refine aq (fun h252=>?_) fun h252=>?_
 ·exfalso;omega
 refine jU 5126 ?_;refine aq (fun h260=>?_) fun h260=>?_
 ·exfalso;omega
 refine jU 5126 ?_;refine aq (fun h268=>?_) fun h268=>?_
 ·refine iy ?_;refine py 8 (.rd 0 (.rd 1 (.rd 2 (.rd 3 (.rd 4 (.rd 5 (.rd 6 (.one 7 .done)))))))) ?_;refine jU 3000000070 ?_;refine bV (ae (n:=5) rfl cK dL rfl rfl) ?_;refine jU 3000000070 ?_;refine bV (da 3 1 false) ?_;refine Ki mS ?_
  refine kO (ap (kz b a.most jO) ?_)
  refine BO ?_
  show cV _ _ _ _ _ _
  refine ar (ax 5 ?_)
  refine jU 300050007000851 ?_
  have hs:saidM a b=(vT (if aN b a.most=0 then b else []),aN b a.most):=by unfold saidM;rw [jK,jK,jK,jK,jP]
  have hq:iJ a b (.tup 2 (fl [jY (vT b),.c (.int .i64 ((aN b a.most:Nat):Int))])) []:=⟨⟨_,by rw [hs],fun h0=>by rw [hs] at h0 ⊢;rw [if_pos h0]⟩,rfl⟩
  exact bo (.inl rfl) [] jD rfl (bH rfl (bz 5) aG) (cT (ab.agg rfl (fun j hj=>by rcases j with _|_|_|_|_|j <;> first|exact cZ|exact cN|omega)) cZ) hq
 refine jU 5126 ?_;refine aq (fun h270=>?_) fun h270=>?_
 rotate_left
 ·exfalso;omega
 refine jU 16 ?_
 refine ak (ap (EX b jO) ?_)
 refine jU 521675119009001 ?_;refine aq (fun h272=>?_) fun h272=>?_
 ·refine cy ?_;refine jq (ae (n:=5) rfl cK dL rfl rfl) ?_;refine jU 1 ?_
  refine ar (ax 5 ?_)
  refine jU 300050003000700051 ?_
  have hs:saidM a b=(vT [],(fg b).2):=by unfold saidM;rw [jK,jK,jK,jK,jK,jP];unfold dM;rw [jK]
  have hq:iJ a b (.tup 2 (fl [jY VV.none,.c (.int .i64 (((fg b).2:Nat):Int))])) []:=⟨⟨_,by rw [hs],fun h0=>by rw [hs] at h0;exact absurd h0 (by simp only;omega)⟩,rfl⟩
  exact bo (.inl rfl) [] jD rfl (bH rfl (bz 5) aG) (cT (ab.agg rfl (fun j hj=>by rcases j with _|_|_|_|_|j <;> first|exact cZ|exact cN|omega)) cZ) hq
 refine jU 810 ?_
 have he0:(fg b).2=0:=by omega
 have hr:cC (fg b).1=true:=F7 he0
 refine jU 16 ?_
 refine ak (ap (EQ (fg b).1 hr) ?_)
 refine jq (ae (n:=5) rfl cK dL rfl rfl) ?_
 refine ar (ax 5 ?_)
 refine jU 30005000700051 ?_
 have hs:saidM a b=(vT (kh (fg b).1),0):=by unfold saidM;rw [jK,jK,jK,jK,jK,jP];unfold dM;rw [if_pos he0]
 have hq:iJ a b (.tup 2 (fl [jY (vT (kh (fg b).1)),.c (.int .i64 ((0:Nat):Int))])) []:=⟨⟨_,by rw [hs],fun h0=>by rw [hs]⟩,rfl⟩
 exact bo (.inl rfl) [] jD rfl (bH rfl (bz 5) aG) (cT (ab.agg rfl (fun j hj=>by rcases j with _|_|_|_|_|j <;> first|exact cZ|exact cN|omega)) cZ) hq
set_option maxHeartbeats 1000000 in
theorem Ck {gs:List Nat} (v:VV) (hv:OC v) (h78:v.kind=7∨v.kind=8):AC gs Tryz.prog 157 [] [jY v] (En v):=by
 have hvt:=hv.t
 refine ai 77 Tryz.func157 fun al w0 F0 St0=>?_;refine cy ?_
 refine ak (cE 5 fun p1=>?_)
 refine jU 51262055090675111 ?_;refine aq (fun h31=>?_) fun h31=>?_
 ·exfalso;omega
 refine jU 5126 ?_;refine aq (fun h33=>?_) fun h33=>?_
 ·exfalso;omega
 refine jU 5126 ?_;refine aq (fun h35=>?_) fun h35=>?_
 ·exfalso;omega
 refine jU 5126 ?_;refine aq (fun h40=>?_) fun h40=>?_
 ·exfalso;omega
 refine jU 5126 ?_;refine aq (fun h42=>?_) fun h42=>?_
 ·refine iy ?_;refine ff (.rd 0 (.rd 1 (.rd 3 (.rd 4 (.rd 5 (.rd 6 (.two 2 (.one 7 (.rd 8 (.rd 9 (.rd 10 .done)))) 7 (.rd 8 (.one 2 (.rd 9 (.rd 10 .done))))))))))) ?_;refine bV (da 4 1 false) ?_;refine Ki mS ?_;refine bV (da 4 1 false) ?_;refine jU 10000800000010000 ?_;refine DZ ?_ ?_
  ·refine kO (IK ?_)
   refine kO (ap (kz v.t v.n jO) ?_)
   refine jU 300050007000880707070 ?_
   exact bo (.inl rfl) [] jD rfl (er rfl aG aG aG) cZ (ny (b':=v.t) (by unfold aH;rw [jK,jK,jK,jK,jP]) (fun h=>by rw [if_pos h]))
  ·refine kO (ap (kz v.t v.n jO) ?_)
   refine jU 70 ?_
   refine kO (IK ?_)
   refine jU 3000500070008807070 ?_
   exact bo (.inl rfl) [] jD rfl (er rfl aG aG aG) cZ (ny (b':=v.t) (by unfold aH;rw [jK,jK,jK,jK,jP]) (fun h=>by rw [if_pos h]))
 refine jU 5126 ?_;refine aq (fun h44=>?_) fun h44=>?_
 rotate_left
 ·exfalso;omega
 refine jU 5070000006 ?_
 refine ak (ap (EV v.t jO) ?_)
 refine jU 521675119009001 ?_;refine aq (fun h46=>?_) fun h46=>?_
 ·refine jU 3000500030007000511116 ?_
  exact bo (.inl rfl) [] jD rfl (er rfl aG aG aG) (ab.tup3 cZ cN cZ) (ny (by unfold aH;rw [jK,jK,jK,jK,jK,jP]) (fun h=>by omega))
 refine jU 810 ?_
 have hp0:(bB v.t).2=0:=by omega
 refine jU 16 ?_
 refine ak (ap (Hi (bB v.t).1 (uZ hp0)) ?_)
 refine jU 3000500070005111 ?_
 exact bo (.inl rfl) [] jD rfl (er rfl aG aG aG) cZ (ny (e:=0) (by unfold aH;rw [jK,jK,jK,jK,jK,jP,hp0]) (fun h=>by unfold gT;rw [if_pos hp0]))
theorem gY {gs:List Nat} (n:Nat) (s:R8) (v:VV) (hs:Gy s) (hv:OC v) (hk:v.kind=1∨v.kind=2∨v.kind=7∨v.kind=8):AC gs Tryz.prog 80 [tD n s] [.op 0 (some n) 0,jY v] (fun r H'=>r=.c (.tuple #[])∧H'=[tD n (cD v s)]):=uP n s v hs hv fun h1 h2 _=>Ck v hv jO
theorem iu {gs:List Nat} (n:Nat) (l:List (List UInt8)) (k:Nat) (a:AA) (hl:0<l.length∧l.length≤1000000) (hb:(aD l).length≤1000000) (hk:a.kind=1∨a.kind=2∨a.kind=7∨a.kind=8):AC gs Tryz.prog 77 [zu n l k] [.op 0 (some n) 0,J7 a] (fun r H'=>r=jY (aa a l k).v∧H'=[zu n (aa a l k).l (aa a l k).k]) :=
 nZ n l k a hl hb fun h1 h2 _ b hb=>B3 a b jO hb
end
section
variable {gs:List Nat} [eN gs] [mm gs]
open Go.RowKit Cal

theorem ET {s:S3} {r:R8} (h:r.e≠0):kH s r=r:=by
 unfold kH
 split
 ·exact uQ _ h
 ·rfl
set_option maxHeartbeats 4000000 in
theorem Hl {gs:List Nat} (n:Nat) {i0:Nat} {r:R8} {w:W8} (hI:ie i0 r w) (hi0:i0≤800) (s:S3):AC gs Tryz.prog 81 [tD n r] [.op 0 (some n) 0,lR s] (fun x H'=>x=.c (.tuple #[])∧H'=[tD n (kH s r)]):=by
 have I1:=iz hI (fF (t:=48) jD)
 refine ai 54 Tryz.func81 fun al w0 F0 St0=>?_;refine cy ?_
 refine ak (cE 3 fun p1=>?_)
 refine jU 5 ?_;refine jM 0 rfl fun gr=>?_;refine eW (α:=Unit) [6,7,8,9,10,11,12,13,14,15,16,17,18] (fun _=>[]) (fun _=>[(some n,.blk 3 (nP ⟨r.tags,r.rows,if r.e=0∧bx s=false then 9 else r.e⟩ 2 gr)),(p1,.blk 3 (sF s)),(gr,.blk r.rows.length (dv r.rows))]) (fun _=>True) (fun _=>rfl) ?_ ?_
 ·refine jU 125010004016 ?_;refine ay 11 (fun g95=>?_) fun g95=>?_
  rotate_left
  ·refine jU 8103005500444 ?_
   refine dh (()) ?_ (h5:=?_) (h7:=?_)
   ·trivial
   ·exact .nil
   ·show aS _ [(some n,.blk 3 (nP ⟨r.tags,r.rows,if r.e=0∧bx s=false then 9 else r.e⟩ 2 gr)),(p1,.blk 3 (sF s)),(gr,.blk r.rows.length (dv r.rows))]
    first
    |(rw [if_pos ⟨by omega,by simp_all⟩];exact aS.refl _)
    |(rw [if_neg (by rintro ⟨_,h⟩;simp_all)];exact aS.refl _)
    |(rw [jK];exact aS.refl _)
  refine eL (aV 3) ?_
  refine ak (ap (rS s) ?_)
  refine jU 510000000030 ?_;refine aq (fun h95=>?_) fun h95=>?_
  rotate_left
  ·refine jU 810 ?_
   refine dh (()) ?_ (h5:=?_) (h7:=?_)
   ·trivial
   ·exact .nil
   ·show aS _ [(some n,.blk 3 (nP ⟨r.tags,r.rows,if r.e=0∧bx s=false then 9 else r.e⟩ 2 gr)),(p1,.blk 3 (sF s)),(gr,.blk r.rows.length (dv r.rows))]
    first
    |(rw [if_pos ⟨by omega,by simp_all⟩];exact aS.refl _)
    |(rw [if_neg (by rintro ⟨_,h⟩;simp_all)];exact aS.refl _)
    |(rw [jK];exact aS.refl _)
  refine jU 1000401200 ?_
  refine ar (bh 1 (nP ⟨r.tags,r.rows,9⟩ 2 gr) ?_ ?_)
  ·exact (fun j hj=>by rcases j with _|_|_|j <;> exact cZ)
  refine jU 85 ?_
  refine dh (()) ?_ (h5:=?_) (h7:=?_)
  ·trivial
  ·exact .nil
  ·show aS _ [(some n,.blk 3 (nP ⟨r.tags,r.rows,if r.e=0∧bx s=false then 9 else r.e⟩ 2 gr)),(p1,.blk 3 (sF s)),(gr,.blk r.rows.length (dv r.rows))]
   first
   |(rw [if_pos ⟨by omega,by simp_all⟩];exact aS.refl _)
   |(rw [if_neg (by rintro ⟨_,h⟩;simp_all)];exact aS.refl _)
   |(rw [jK];exact aS.refl _)
 ·rintro u _
  obtain ⟨e0,he0⟩:∃ e0,e0=(if r.e=0∧bx s=false then 9 else r.e):=⟨_,rfl⟩
  have hbad:e0≠0→kH s r=⟨r.tags,r.rows,e0⟩:=fun h=>by
   by_cases hc:r.e=0∧bx s=false
   ·rw [if_pos hc] at he0
    unfold kH
    rw [if_neg (by rw [hc.2];decide),if_pos hc.1,he0]
   ·rw [if_neg hc] at he0
    rw [ET jO,he0]
  have hgood:e0=0→r.e=0∧bx s=true:=fun h=>by
   by_cases hc:r.e=0∧bx s=false
   ·rw [if_pos hc] at he0;omega
   ·rw [if_neg hc] at he0
    refine ⟨by omega,?_⟩
    cases hb:bx s with
    | true=>rfl
    | false=>exact absurd ⟨by omega,hb⟩ hc
  rw [← he0]
  refine jU 5250100040167 ?_;refine aq (fun h98=>?_) fun h98=>?_
  ·refine jU 30007000 ?_
   rw [hbad (by have h:((e0:Nat):Int)≠0:=h98;omega)]
   exact bI (.inl rfl) n ⟨r.tags,r.rows,e0⟩ 2 (bN rfl) cZ rfl rfl rfl (by exact cZ) (by exact cO rfl) (by exact cZ) (Nat.le_refl _) (fun _ _=>by exact cZ)
  refine jU 810 ?_
  obtain ⟨hre,hr⟩:=hgood (by have h:¬ (((e0:Nat):Int)≠0):=h98;omega)
  obtain ⟨hg1,hg2⟩:=i9 hr
  have hG:∀ j,j≤(aX s).length→∃ w',ie (i0+1+4 * j) (gR (((aX s).take j).flatMap pv) (cD (w1 48) r)) w':=fun j hj=>by
   refine ⟨_,qY (tZ (((aX s).take j).flatMap pv) I1 fun v hv=>?_) ?_⟩
   ·obtain ⟨p,hp,hv⟩:=List.mem_flatMap.1 hv
    have h:=hg1 p (List.mem_of_mem_take hp)
    exact uu jO jO v hv
   ·rw [tN,List.length_take];omega
  have hS:∀ j,j<(aX s).length→gR (((aX s).take (j+1)).flatMap pv) (cD (w1 48) r)=gR (pv ((aX s).getD j ([],[]))) (gR (((aX s).take j).flatMap pv) (cD (w1 48) r)):=fun j hj=>by
   rw [List.take_succ_eq_append_getElem hj,List.flatMap_append,uR,List.getD_eq_getElem?_getD,List.getElem?_eq_getElem hj]
   simp
  have hE:kH s r=cD w2 (gR ((aX s).flatMap pv) (cD (w1 48) r)):=by
   unfold kH
   rw [if_pos hr]
   show gR ((aX s).flatMap pv++[w2]) (cD (w1 48) r)=_
   rw [uR]
   rfl
  refine jE (pp n r 0 2 rfl rfl rfl cZ (cO rfl) (cI jO) (Nat.le_refl _) (fun _ _=>cZ)) ?_;refine jE (dB (H':=[tD n r,(p1,.blk 3 (sF s))]) [0,1] jD rfl) ?_;refine jU 16 ?_;refine jq (ae (n:=5) rfl cK dL rfl rfl) ?_
  refine ar (aJ 0 (gY n r (w1 48) (gN hI jO) (fF jD).ok (.inl rfl)) ?_ (ho:=rfl) (he:=(.cons (se rfl cP) (.cons (se rfl (ab.agg rfl (fun j hj=>by rcases j with _|_|_|_|_|j <;> first|exact cZ|exact cN))) .nil))))
  refine jU 675 ?_;refine eL (aV 3) ?_
  refine ak (ap (wW s hr) ?_)
  refine jU 20513 ?_;refine aF (α:=Nat) [5,30,31,32,33,34,35,36,37,38,39,40,41,42,43,44,45,46,47,48,49,50] (fun i=>[(30,.c (.int .i64 (i:Nat)))]) (fun i=>[tD n (gR (((aX s).take i).flatMap pv) (cD (w1 48) r)),(p1,.blk 3 (sF s))]) (fun i=>i≤(aX s).length) (fun i=>(aX s).length-i) (0) ?_ (fun _=>rfl) ?_ ?_ ?_
  ·exact Nat.zero_le _
  ·exact .cons cZ .nil
  ·exact aS.refl _
  ·rintro i (hi:i≤(aX s).length)
   refine jU 7526 ?_;refine aq (fun h102=>?_) fun h102=>?_
   rotate_left
   ·refine jU 84000200020006000 ?_
    have hie:i=(aX s).length:=by omega
    obtain ⟨w',J0⟩:=hG i hi
    subst hie
    rw [List.take_length] at *
    refine jU 1200 ?_;refine jq (ae (n:=5) rfl cK dL rfl rfl) ?_
    refine ar (aJ 0 (gY n _ w2 (gN J0 jO) lS.ok (.inr (.inl rfl))) ?_ (ho:=rfl) (he:=(.cons (se rfl cP) (.cons (se rfl (ab.agg rfl (fun j hj=>by rcases j with _|_|_|_|_|j <;> first|exact cZ|exact cN))) .nil))))
    refine jU 5 ?_
    rw [hE]
    exact ba (.inr rfl) rfl (bN rfl) cZ
   refine jU 7006207810 ?_;refine jq (gq 2) ?_
   refine ak (bD (n:=2) dH rfl fun p3=>?_)
   refine ar (bh 2 (fm ((aX s).getD i ([],[]))) ?_ ?_)
   ·exact (fun j hj=>by rcases j with _|_|j <;> first|exact cZ|omega)
   refine jU 5 ?_
   have hm:(aX s).getD i ([],[]) ∈ aX s:=by
    rw [List.getD_eq_getElem?_getD,List.getElem?_eq_getElem jO]
    exact List.getElem_mem _
   obtain ⟨_,hp1,hp2⟩:=hg1 _ hm
   obtain ⟨w',J0⟩:=hG i hi
   have J1:=iz J0 (fF (t:=48) jD)
   have J2:=iz J1 (qx (t:=((aX s).getD i ([],[])).1) jO)
   have J3:=iz J2 (qy (t:=((aX s).getD i ([],[])).2) jO)
   refine jU 16 ?_;refine jq (ae (n:=5) rfl cK dL rfl rfl) ?_
   refine ar (aJ 0 (gY n _ (w1 48) (gN J0 jO) (fF jD).ok (.inl rfl)) ?_ (ho:=rfl) (he:=(.cons (se rfl cP) (.cons (se rfl (ab.agg rfl (fun j hj=>by rcases j with _|_|_|_|_|j <;> first|exact cZ|exact cN))) .nil))))
   refine jU 5090165 ?_;refine jq (ae (n:=5) rfl cK dL rfl rfl) ?_
   refine ar (aJ 0 (gY n _ (v8 ((aX s).getD i ([],[])).1) (gN J1 jO) (qx jO).ok (.inr (.inr (.inr rfl)))) ?_ (ho:=rfl) (he:=(.cons (se rfl cP) (.cons (se rfl (ab.agg rfl (fun j hj=>by rcases j with _|_|_|_|_|j <;> first|exact cZ|exact cN))) .nil))))
   refine jU 50100165 ?_;refine jq (ae (n:=5) rfl cK dL rfl rfl) ?_
   refine ar (aJ 0 (gY n _ (v7 ((aX s).getD i ([],[])).2 64) (gN J2 jO) (qy jO).ok (.inr (.inr (.inl rfl)))) ?_ (ho:=rfl) (he:=(.cons (se rfl cP) (.cons (se rfl (ab.agg rfl (fun j hj=>by rcases j with _|_|_|_|_|j <;> first|exact cZ|exact cN))) .nil))))
   refine jU 12005 ?_;refine jq (ae (n:=5) rfl cK dL rfl rfl) ?_
   refine ar (aJ 0 (gY n _ w2 (gN J3 jO) lS.ok (.inr (.inl rfl))) ?_ (ho:=rfl) (he:=(.cons (se rfl cP) (.cons (se rfl (ab.agg rfl (fun j hj=>by rcases j with _|_|_|_|_|j <;> first|exact cZ|exact cN))) .nil))))
   refine jU 851920084005 ?_
   refine aw (i+1) ?_ ?_ (h5:=?_) (h7:=?_)
   ·show i+1≤(aX s).length;omega
   ·show (aX s).length-(i+1)<(aX s).length-i;omega
   ·exact .cons (cI jO) .nil
   ·rw [hS i jO];exact aS.refl _
theorem NW {l:List (List UInt8)} {k:Nat} (h:k≤28):(aj l k).1.2≤28:=kp aE (kp aT (kp aO (kp aL h)))
theorem Oo {l:List (List UInt8)} {k:Nat} (h:k≤28):(ez l k).2≤28:=Oq (fun _ _ h=>NW h) (kp aL h)
theorem Ok {l:List (List UInt8)} {k:Nat} (h:k≤28):(eS l k).1.2≤28:=by
 have h1:=Oo (l:=l) h
 have h2:=u6 (kN l k)
 unfold eS
 split
 ·exact h1
 ·dsimp only;omega
theorem Bn {α:Type} {sp:nA α} {l0:List (List UInt8)} {k0:Nat} {most:Int} (ok:oD sp) (hl:0<l0.length) {j:Nat} (h1:∀ i,i<j→qj sp l0 k0 most i=true) (hm:cn (bw sp l0 k0 j).1.1 (bw sp l0 k0 j).1.2=true) (hj:most≤j):jG sp l0 k0 most=j∧fh sp l0 k0 most=((aa aE (bw sp l0 k0 j).1.1 3).l,(aa aE (bw sp l0 k0 j).1.1 3).k):=by
 have hs:jG sp l0 k0 most=j:=sv ok hl h1 (by unfold qj;rw [hm,Bool.true_and,decide_eq_false_iff_not];omega)
 refine ⟨hs,?_⟩
 obtain ⟨f1,f2⟩:=dK aE rfl (bw sp l0 k0 j).1.1 3
 unfold fh
 rw [hs]
 dsimp only
 rw [if_pos hm,f1,f2]
theorem Ec {α:Type} {sp:nA α} {l0:List (List UInt8)} {k0:Nat} {most:Int} (ok:oD sp) (hl:0<l0.length) {j:Nat} (h1:∀ i,i<j→qj sp l0 k0 most i=true) (hm:cn (bw sp l0 k0 j).1.1 (bw sp l0 k0 j).1.2=false):jG sp l0 k0 most=j∧fh sp l0 k0 most=((aa aE (bw sp l0 k0 j).1.1 (bw sp l0 k0 j).1.2).l,(aa aE (bw sp l0 k0 j).1.1 (bw sp l0 k0 j).1.2).k):=by
 have hs:jG sp l0 k0 most=j:=sv ok hl h1 (by unfold qj;rw [hm];rfl)
 refine ⟨hs,?_⟩
 obtain ⟨f1,f2⟩:=dK aE rfl (bw sp l0 k0 j).1.1 (bw sp l0 k0 j).1.2
 unfold fh
 rw [hs]
 dsimp only
 rw [if_neg (by rw [hm];simp),f1,f2]
def zS:Nat→CV:=fun _=>.top
set_option maxHeartbeats 4000000 in
theorem Hm {gs:List Nat} (n:Nat) (l:List (List UInt8)) (k:Nat) (hl:0<l.length∧l.length≤100000) (hb:cm l≤100000):AC gs Tryz.prog 78 [zu n l k] [.op 0 (some n) 0] (fun x H'=>x=lR (eS l k).2∧H'=[zu n (eS l k).1.1 (eS l k).1.2]):=by
 have m0:ec l k≤100001:=by unfold ec;split <;> omega
 have n0:=bX m0
 obtain ⟨l1,m1⟩:=dP aL hl m0 jD
 obtain ⟨f1,f2⟩:=eF aL rfl l k
 have hL0:aa aL l k=aa aL l k:=rfl
 generalize hl0:(aa aL l k).l=l0 at *
 generalize hk0:(aa aL l k).k=k0 at *
 have e1:an 48 l k=l0:=f1.symm
 have e2:(ag 48 l k).k=k0:=f2.symm
 have hso:=fun j=>qt aj l0 k0 j
 have hbd:=pO (sp:=aj) (k0:=k0) (most:=8) gz l1.1
 refine ai 60 Tryz.func78 fun al w0 F0 St0=>?_;refine cy ?_
 refine ak (bD (n:=3) nH rfl fun p1=>?_)
 refine jU 65 ?_
 refine ak (aU 0 2 dH fun p2=>?_)
 refine jU 1651 ?_;refine jq (ae (n:=4) rfl nI oa rfl rfl) ?_
 refine ar (aJ 0 ((by have h:=iu (gs:=gs) n l k aL jO jO (.inl rfl);rw [hl0,hk0] at h;exact h)) ?_ (ho:=rfl) (he:=(.cons (se rfl cP) (.cons (se rfl (ab.agg rfl (fun j hj=>by rcases j with _|_|_|_|j <;> exact cZ))) .nil))))
 refine jU 2075 ?_;refine aF (α:=Nat×Option Nat) [3,4,5,12,13,14,15,16,17,18,19,20,21,22,23,24,25,26,27,28,29,30,31,32,33,34,35,36,37,38,39] (fun (j,g)=>[(3,.os 2 g 0 (bw aj l0 k0 j).2.length 2)]) (fun (j,g)=>[zu n (bw aj l0 k0 j).1.1 (bw aj l0 k0 j).1.2,(p1,.blk 3 zS),(g,.blk ((bw aj l0 k0 j).2.length * 2) (eK 2 fm ([],[]) (bw aj l0 k0 j).2))]) (fun p=>∀ i,i<p.1→qj aj l0 k0 8 i=true) (fun p=>ec (bw aj l0 k0 p.1).1.1 (bw aj l0 k0 p.1).1.2) ((0,p2)) ?_ (fun _=>rfl) ?_ ?_ ?_
 ·exact fun i hi=>absurd hi (Nat.not_lt_zero i)
 ·exact .cons (cO rfl) .nil
 ·exact .same (.blk rfl (fun j hj=>ab.top _) (.blk rfl (fun j hj=>absurd hj (Nat.not_lt_zero j)) .nil))
 ·rintro ⟨j,g⟩ (hj:∀ i,i<j→qj aj l0 k0 8 i=true)
  obtain ⟨hmj,hlk,hlo,hhi⟩:=hbd j hj
  have hjl:0<(bw aj l0 k0 j).1.1.length∧(bw aj l0 k0 j).1.1.length≤200000:=by omega
  have hjm:ec (bw aj l0 k0 j).1.1 (bw aj l0 k0 j).1.2≤100001:=by omega
  have hjn:=bX hjm
  have hjo:=hso j
  refine jU 167 ?_
  refine ar (aJ 0 (B7 n (bw aj l0 k0 j).1.1 (bw aj l0 k0 j).1.2 jO) ?_)
  refine jU 5 ?_;refine aq (fun h115=>?_) fun h115=>?_
  rotate_left
  ·refine jU 84000200020006000 ?_
   first
    |(have hmt1:cn (bw aj l0 k0 j).1.1 (bw aj l0 k0 j).1.2=true:=by simpa using h115
      obtain ⟨hs1,hs2⟩:=Bn (most:=8) gz l1.1 hj hmt1 jO
      have hDo:=iu (gs:=gs) n (bw aj l0 k0 j).1.1 3 aE jO jO (.inr (.inl rfl)))
    |(have hmf1:cn (bw aj l0 k0 j).1.1 (bw aj l0 k0 j).1.2=false:=by simpa using h115
      obtain ⟨hs1,hs2⟩:=Ec (most:=8) gz l1.1 hj hmf1
      have hDo:=iu (gs:=gs) n (bw aj l0 k0 j).1.1 (bw aj l0 k0 j).1.2 aE jO jO (.inr (.inl rfl)))
   have hE1:(ez l k).1=(fh aj l0 k0 8).1:=by unfold ez;rw [e1,e2]
   have hE2:(ez l k).2=(fh aj l0 k0 8).2:=by unfold ez;rw [e1,e2]
   have hL:kN l k=(bw aj l0 k0 j).2:=by unfold kN;rw [e1,e2,hs1]
   rw [hs2] at hE1 hE2
   dsimp only at hE1 hE2
   rw [← hE1,← hE2] at hDo
   refine jU 16 ?_;refine jq (ae (n:=4) rfl nI oa rfl rfl) ?_
   refine ar (aJ 0 hDo ?_ (ho:=rfl) (he:=(.cons (se rfl cP) (.cons (se rfl (ab.agg rfl (fun j hj=>by rcases j with _|_|_|_|j <;> exact cZ))) .nil))))
   refine jU 5250100401675 ?_;refine aq (fun h127=>?_) fun h127=>?_
   ·refine cy ?_;refine jq (ae (n:=3) rfl nH Av rfl rfl) ?_
    refine ar (ax 3 ?_)
    refine jU 300070005 ?_
    rw [show eS l k=(ez l k,bA) by unfold eS;rw [jP]]
    exact ba (.inl rfl) rfl (aA rfl (bz 3)) (ab.agg rfl (fun j hj=>by rcases j with _|_|_|j <;> exact cZ))
   refine jU 810 ?_
   have hz:(ez l k).2=0:=by omega
   refine jE (freeze 2 rfl) ?_;refine jE (eP 3 (fun a b=>fm ((bw aj l0 k0 j).2.getD a ([],[])) b) rfl rfl jO (fun a b ha hb=>ab.of_eq (by rw [Nat.zero_add,gL hb]))) ?_;refine jU 16 ?_
   refine ak (ap (Ac (bw aj l0 k0 j).2 jO) ?_)
   refine jU 9009001 ?_
   refine ak (bD (n:=3) nH rfl fun p6=>?_)
   refine ar (ax 3 ?_)
   refine jU 53016751 ?_;refine aq (fun h131=>?_) fun h131=>?_
   rotate_left
   ·refine jU 6810 ?_;refine eL (aV 3) ?_
    refine ar (ax 3 ?_)
    refine jU 70005 ?_
    have hof:=(u6 (bw aj l0 k0 j).2).imp id And.left
    rw [show eS l k=(((ez l k).1,(kJ (bw aj l0 k0 j).2).2),(kJ (bw aj l0 k0 j).2).1) by unfold eS;rw [jK,hL]]
    first
     |(have h9:(kJ (bw aj l0 k0 j).2).2=(ez l k).2:=by omega
       rw [h9]
       exact ba (.inl rfl) rfl (aA rfl (bz 3)) (ab.agg rfl (fun j hj=>by rcases j with _|_|_|j <;> exact cZ)))
     |(have h9:(kJ (bw aj l0 k0 j).2).2=9:=by omega
       rw [h9]
       exact ba (.inl rfl) rfl (aA rfl (bz 3)) (ab.agg rfl (fun j hj=>by rcases j with _|_|_|j <;> first|exact cZ|omega)))
   refine jU 100401200 ?_
   refine ar (bh 1 (uC (ez l k).1 9) ?_ ?_)
   ·exact (fun j hj=>by rcases j with _|_|j <;> exact cZ)
   refine jU 685 ?_;refine eL (aV 3) ?_
   refine ar (ax 3 ?_)
   refine jU 70005 ?_
   have hof:=(u6 (bw aj l0 k0 j).2).imp id And.left
   rw [show eS l k=(((ez l k).1,(kJ (bw aj l0 k0 j).2).2),(kJ (bw aj l0 k0 j).2).1) by unfold eS;rw [jK,hL]]
   first
    |(have h9:(kJ (bw aj l0 k0 j).2).2=(ez l k).2:=by omega
      rw [h9]
      exact ba (.inl rfl) rfl (aA rfl (bz 3)) (ab.agg rfl (fun j hj=>by rcases j with _|_|_|j <;> first|exact cZ|omega)))
    |(have h9:(kJ (bw aj l0 k0 j).2).2=9:=by omega
      rw [h9]
      exact ba (.inl rfl) rfl (aA rfl (bz 3)) (ab.agg rfl (fun j hj=>by rcases j with _|_|_|j <;> exact cZ)))
  refine jU 52316720810 ?_;refine aq (fun h116=>?_) fun h116=>?_
  rotate_left
  ·refine jU 810 ?_
   have hmt0:cn (bw aj l0 k0 j).1.1 (bw aj l0 k0 j).1.2=true:=by simpa using h115
   have hgo:qj aj l0 k0 8 j=true:=by unfold qj;rw [hmt0,Bool.true_and,decide_eq_true_eq];omega
   obtain ⟨q1,r1⟩:=dP aL hjl hjm jD
   obtain ⟨q2,r2⟩:=dP aO q1 r1 jD
   obtain ⟨q3,r3⟩:=dP aT q2 r2 jD
   have t1:=bX r1
   have t2:=bX r2
   have t3:=bX r3
   refine jU 16 ?_;refine jq (ae (n:=4) rfl nI oa rfl rfl) ?_
   refine ar (aJ 0 (iu n (bw aj l0 k0 j).1.1 (bw aj l0 k0 j).1.2 aL jO jO (.inl rfl)) ?_ (ho:=rfl) (he:=(.cons (se rfl cP) (.cons (se rfl (ab.agg rfl (fun j hj=>by rcases j with _|_|_|_|j <;> exact cZ))) .nil))))
   refine jU 165 ?_;refine jq (ae (n:=4) rfl nI oa rfl rfl) ?_
   refine ar (aJ 0 (iu n (aa aL (bw aj l0 k0 j).1.1 (bw aj l0 k0 j).1.2).l (aa aL (bw aj l0 k0 j).1.1 (bw aj l0 k0 j).1.2).k aO jO jO (.inr (.inr (.inr rfl)))) ?_ (ho:=rfl) (he:=(.cons (se rfl cP) (.cons (se rfl (ab.agg rfl (fun j hj=>by rcases j with _|_|_|_|j <;> exact cZ))) .nil))))
   refine jq (QL 4 1) ?_;refine jU 1651 ?_;refine jq (ae (n:=4) rfl nI oa rfl rfl) ?_
   refine ar (aJ 0 (iu n (aa aO (aa aL (bw aj l0 k0 j).1.1 (bw aj l0 k0 j).1.2).l (aa aL (bw aj l0 k0 j).1.1 (bw aj l0 k0 j).1.2).k).l (aa aO (aa aL (bw aj l0 k0 j).1.1 (bw aj l0 k0 j).1.2).l (aa aL (bw aj l0 k0 j).1.1 (bw aj l0 k0 j).1.2).k).k aT jO jO (.inr (.inr (.inl rfl)))) ?_ (ho:=rfl) (he:=(.cons (se rfl cP) (.cons (se rfl (ab.agg rfl (fun j hj=>by rcases j with _|_|_|_|j <;> exact cZ))) .nil))))
   refine jq (QL 4 1) ?_;refine jU 1651 ?_;refine jq (ae (n:=4) rfl nI oa rfl rfl) ?_
   refine ar (aJ 0 (iu n (aa aT (aa aO (aa aL (bw aj l0 k0 j).1.1 (bw aj l0 k0 j).1.2).l (aa aL (bw aj l0 k0 j).1.1 (bw aj l0 k0 j).1.2).k).l (aa aO (aa aL (bw aj l0 k0 j).1.1 (bw aj l0 k0 j).1.2).l (aa aL (bw aj l0 k0 j).1.1 (bw aj l0 k0 j).1.2).k).k).l (aa aT (aa aO (aa aL (bw aj l0 k0 j).1.1 (bw aj l0 k0 j).1.2).l (aa aL (bw aj l0 k0 j).1.1 (bw aj l0 k0 j).1.2).k).l (aa aO (aa aL (bw aj l0 k0 j).1.1 (bw aj l0 k0 j).1.2).l (aa aL (bw aj l0 k0 j).1.1 (bw aj l0 k0 j).1.2).k).k).k aE jO jO (.inr (.inl rfl))) ?_ (ho:=rfl) (he:=(.cons (se rfl cP) (.cons (se rfl (ab.agg rfl (fun j hj=>by rcases j with _|_|_|_|j <;> exact cZ))) .nil))))
   refine jU 1112005 ?_;refine jq (ae (n:=2) rfl dH pC rfl rfl) ?_
   refine ak (aU 2 2 dH fun p9=>?_)
   refine ar (av (ge 2 fm ([],[])) (l2:=[(aj (bw aj l0 k0 j).1.1 (bw aj l0 k0 j).1.2).2]) rfl rfl rfl rfl (by exact Nat.le_refl _) (fun _ _=>cZ) (aY rfl (.inl rfl) jD) rfl (fun j hj=>by rcases j with _|_|j <;> first|exact cZ|(exfalso;simp at hj <;> omega)) Tryz.underlying210 sZ sS dH tw rfl (by (simp;omega)) (by (simp;omega)) (bi rfl rfl) rfl rfl rfl (fun p10=>?_))
   refine jU 840051 ?_
   refine aw ((j+1,p10)) ?_ ?_ (h5:=?_) (h7:=?_)
   ·exact fun i hi=>if h:i<j then hj i h else (by obtain rfl:i=j:=(by have hi:i<j+1:=hi;omega);exact hgo)
   ·exact gz.mu _ _ jO hmt0
   ·exact .cons (cO rfl) .nil
   ·exact aS.refl _
  refine jU 1004016 ?_
  refine ar (bh 1 (uC (bw aj l0 k0 j).1.1 3) ?_ ?_)
  ·exact (fun j hj=>by rcases j with _|_|j <;> exact cZ)
  refine jU 84000200080000200060005 ?_
  first
   |(have hmt1:cn (bw aj l0 k0 j).1.1 (bw aj l0 k0 j).1.2=true:=by simpa using h115
     obtain ⟨hs1,hs2⟩:=Bn (most:=8) gz l1.1 hj hmt1 jO
     have hDo:=iu (gs:=gs) n (bw aj l0 k0 j).1.1 3 aE jO jO (.inr (.inl rfl)))
   |(have hmf1:cn (bw aj l0 k0 j).1.1 (bw aj l0 k0 j).1.2=false:=by simpa using h115
     obtain ⟨hs1,hs2⟩:=Ec (most:=8) gz l1.1 hj hmf1
     have hDo:=iu (gs:=gs) n (bw aj l0 k0 j).1.1 (bw aj l0 k0 j).1.2 aE jO jO (.inr (.inl rfl)))
  have hE1:(ez l k).1=(fh aj l0 k0 8).1:=by unfold ez;rw [e1,e2]
  have hE2:(ez l k).2=(fh aj l0 k0 8).2:=by unfold ez;rw [e1,e2]
  have hL:kN l k=(bw aj l0 k0 j).2:=by unfold kN;rw [e1,e2,hs1]
  rw [hs2] at hE1 hE2
  dsimp only at hE1 hE2
  rw [← hE1,← hE2] at hDo
  refine jU 16 ?_;refine jq (ae (n:=4) rfl nI oa rfl rfl) ?_
  refine ar (aJ 0 hDo ?_ (ho:=rfl) (he:=(.cons (se rfl cP) (.cons (se rfl (ab.agg rfl (fun j hj=>by rcases j with _|_|_|_|j <;> exact cZ))) .nil))))
  refine jU 5250100401675 ?_;refine aq (fun h127=>?_) fun h127=>?_
  ·refine cy ?_;refine jq (ae (n:=3) rfl nH Av rfl rfl) ?_
   refine ar (ax 3 ?_)
   refine jU 300070005 ?_
   rw [show eS l k=(ez l k,bA) by unfold eS;rw [jP]]
   exact ba (.inl rfl) rfl (aA rfl (bz 3)) (ab.agg rfl (fun j hj=>by rcases j with _|_|_|j <;> exact cZ))
  refine jU 810 ?_
  have hz:(ez l k).2=0:=by omega
  refine jE (freeze 2 rfl) ?_;refine jE (eP 3 (fun a b=>fm ((bw aj l0 k0 j).2.getD a ([],[])) b) rfl rfl jO (fun a b ha hb=>ab.of_eq (by rw [Nat.zero_add,gL hb]))) ?_;refine jU 16 ?_
  refine ak (ap (Ac (bw aj l0 k0 j).2 jO) ?_)
  refine jU 9009001 ?_
  refine ak (bD (n:=3) nH rfl fun p6=>?_)
  refine ar (ax 3 ?_)
  refine jU 53016751 ?_;refine aq (fun h131=>?_) fun h131=>?_
  rotate_left
  ·refine jU 6810 ?_;refine eL (aV 3) ?_
   refine ar (ax 3 ?_)
   refine jU 70005 ?_
   have hof:=(u6 (bw aj l0 k0 j).2).imp id And.left
   rw [show eS l k=(((ez l k).1,(kJ (bw aj l0 k0 j).2).2),(kJ (bw aj l0 k0 j).2).1) by unfold eS;rw [jK,hL]]
   first
    |(have h9:(kJ (bw aj l0 k0 j).2).2=(ez l k).2:=by omega
      rw [h9]
      exact ba (.inl rfl) rfl (aA rfl (bz 3)) (ab.agg rfl (fun j hj=>by rcases j with _|_|_|j <;> exact cZ)))
    |(have h9:(kJ (bw aj l0 k0 j).2).2=9:=by omega
      rw [h9]
      exact ba (.inl rfl) rfl (aA rfl (bz 3)) (ab.agg rfl (fun j hj=>by rcases j with _|_|_|j <;> first|exact cZ|omega)))
  refine jU 100401200 ?_
  refine ar (bh 1 (uC (ez l k).1 9) ?_ ?_)
  ·exact (fun j hj=>by rcases j with _|_|j <;> exact cZ)
  refine jU 685 ?_;refine eL (aV 3) ?_
  refine ar (ax 3 ?_)
  refine jU 70005 ?_
  have hof:=(u6 (bw aj l0 k0 j).2).imp id And.left
  rw [show eS l k=(((ez l k).1,(kJ (bw aj l0 k0 j).2).2),(kJ (bw aj l0 k0 j).2).1) by unfold eS;rw [jK,hL]]
  first
   |(have h9:(kJ (bw aj l0 k0 j).2).2=(ez l k).2:=by omega
     rw [h9]
     exact ba (.inl rfl) rfl (aA rfl (bz 3)) (ab.agg rfl (fun j hj=>by rcases j with _|_|_|j <;> first|exact cZ|omega)))
   |(have h9:(kJ (bw aj l0 k0 j).2).2=9:=by omega
     rw [h9]
     exact ba (.inl rfl) rfl (aA rfl (bz 3)) (ab.agg rfl (fun j hj=>by rcases j with _|_|_|j <;> exact cZ)))
end
section
variable {gs:List Nat} [eN gs] [mm gs]
open Go.RowKit Cal

theorem L9 (l:List (List UInt8)) (k:Nat) (hl:0<l.length):ec (eS l k).1.1 (eS l k).1.2≤ec l k:=by
 obtain ⟨_,e2,_,e4,e5,_⟩:=mh (t:=48) (l:=l) (k:=k) hl
 have he:0<(an 48 l k).length:=by
  by_cases h0:(ag 48 l k).k=0
  ·rw [e4 h0];omega
  ·rw [e5 h0];omega
 have hs:=qU (sp:=aj) (l0:=an 48 l k) (k0:=(ag 48 l k).k) (most:=8) gz he
 have hb:=pO (sp:=aj) (l0:=an 48 l k) (k0:=(ag 48 l k).k) (most:=8) gz he _ hs.1
 have hE:ec (ez l k).1 (ez l k).2≤ec l k:=by
  unfold ez fh
  dsimp only
  split
  ·obtain ⟨_,f2,_⟩:=gI (l:=(bw aj (an 48 l k) (ag 48 l k).k (jG aj (an 48 l k) (ag 48 l k).k 8)).1.1) (k:=3) jO
   have h3:ec (bw aj (an 48 l k) (ag 48 l k).k (jG aj (an 48 l k) (ag 48 l k).k 8)).1.1 3≤ec (bw aj (an 48 l k) (ag 48 l k).k (jG aj (an 48 l k) (ag 48 l k).k 8)).1.1 (bw aj (an 48 l k) (ag 48 l k).k (jG aj (an 48 l k) (ag 48 l k).k 8)).1.2:=by
    unfold ec
    rw [if_neg jD]
    omega
   dsimp only
   omega
  ·obtain ⟨_,f2,_⟩:=gI (l:=(bw aj (an 48 l k) (ag 48 l k).k (jG aj (an 48 l k) (ag 48 l k).k 8)).1.1) (k:=(bw aj (an 48 l k) (ag 48 l k).k (jG aj (an 48 l k) (ag 48 l k).k 8)).1.2) jO
   dsimp only
   omega
 unfold eS
 split
 ·exact hE
 ·rename_i h0
  dsimp only
  have h1:(ez l k).2=0:=Classical.not_not.1 h0
  refine Nat.le_trans ?_ hE
  unfold ec
  rw [if_pos h1]
  split <;> omega
theorem cp (f:Fd) (ho:fD f) {l:List (List UInt8)} {k m B:Nat} (hl:0<l.length∧l.length≤m) (hb:ec l k≤B):(0<(aZ f l k).1.1.length∧(aZ f l k).1.1.length≤m+17)∧ec (aZ f l k).1.1 (aZ f l k).1.2≤B:=by
 have h1:=(sD f ho (k:=k) hl.1).1
 refine ⟨by omega,?_⟩
 unfold aZ
 split
 ·exact Nat.le_trans (L9 l k hl.1) hb
 ·exact Nat.le_trans (fU (ld f) (l:=l) (k:=k) hl.1).2.1 hb
theorem eG:∀ (fs:List Fd) (l:List (List UInt8)) (k:Nat),(am fs l k).2.length=fs.length
 | [],l,k=>rfl
 | f::fs,l,k=>by
  show ((aZ f l k).2::(am fs (aZ f l k).1.1 (aZ f l k).1.2).2).length=_
  rw [List.length_cons,List.length_cons,eG fs]
section
variable (n:Nat) (l:List (List UInt8)) (k:Nat)
theorem KI {gs:List Nat} [eN gs] [mm gs] (f:Fd) (hc:f.call=0) (hl:0<l.length∧l.length≤100000) (hb:ec l k≤100000):AC gs Tryz.prog 116 [dA n l k] [.op 0 (some n) 0] (fun r H'=>r=lR (aZ f l k).2.who∧H'=[dA n (aZ f l k).1.1 (aZ f l k).1.2]):=by
 have h:=LF (gs:=gs) n l k hl (CD hb)
 have e:aZ f l k=((eS l k).1,⟨0,[],[],(eS l k).2⟩):=by unfold aZ;rw [if_pos hc]
 rw [e]
 exact h
theorem qH {f:Fd} (hc:f.call≠0):aZ f l k=(((aa (ld f) l k).l,(aa (ld f) l k).k),⟨(aa (ld f) l k).v.n,(aa (ld f) l k).v.t,(aa (ld f) l k).v.b,bA⟩):=by unfold aZ;rw [if_neg hc]
theorem mN {gs:List Nat} [fZ gs] (least most:Int) (hl:0<l.length∧l.length≤1000000) (hb:(aD l).length≤10000000):AC gs Tryz.prog 66 [dA n l k] [.op 0 (some n) 0,.c (.int .i64 least),.c (.int .i64 most)] (fun r H'=>r=bu (aZ ⟨6,least,most⟩ l k).2.b∧H'=[dA n (aZ ⟨6,least,most⟩ l k).1.1 (aZ ⟨6,least,most⟩ l k).1.2]):=by
 have h:=AB (gs:=gs) n l k least most hl hb
 rw [qH l k (show ¬ (6:Int)=0 by decide),ln vB [] rfl (t:=4) (f:=jF least most) (by show ¬ (6:Int)=1;decide) (by show ¬ (6:Int)=2;decide) (by show ¬ (6:Int)=11;decide) (by funext b;rfl) rfl]
 exact h
theorem mP {gs:List Nat} [fZ gs] (least most:Int) (hl:0<l.length∧l.length≤1000000) (hb:(aD l).length≤10000000):AC gs Tryz.prog 117 [dA n l k] [.op 0 (some n) 0] (fun r H'=>r=.c (.int .i64 (aZ ⟨9,least,most⟩ l k).2.n)∧H'=[dA n (aZ ⟨9,least,most⟩ l k).1.1 (aZ ⟨9,least,most⟩ l k).1.2]):=by
 have h:=AI (gs:=gs) n l k hl hb
 rw [qH l k (show ¬ (9:Int)=0 by decide),ln vN 0 rfl (t:=24) (f:=fun b=>(gJ b,gV b)) (by show ¬ (9:Int)=1;decide) (by show ¬ (9:Int)=2;decide) (by show ¬ (9:Int)=11;decide) (by funext b;rfl) rfl]
 exact h
theorem Bk {gs:List Nat} [fZ gs] (least most:Int) (hl:0<l.length∧l.length≤1000000) (hb:(aD l).length≤10000000):AC gs Tryz.prog 145 [dA n l k] [.op 0 (some n) 0,.c (.int .i64 least),.c (.int .i64 most)] (fun r H'=>r=.c (.int .i64 (aZ ⟨4,least,most⟩ l k).2.n)∧H'=[dA n (aZ ⟨4,least,most⟩ l k).1.1 (aZ ⟨4,least,most⟩ l k).1.2]):=by
 have h:=xP (gs:=gs) n l k least most hl hb
 rw [qH l k (show ¬ (4:Int)=0 by decide),ln vN 0 rfl (t:=10) (f:=fun b=>aI b least most) (by show ¬ (4:Int)=1;decide) (by show ¬ (4:Int)=2;decide) (by show ¬ (4:Int)=11;decide) (by funext b;rfl) rfl]
 exact h
theorem t7 {gs:List Nat} [fZ gs] (least most:Int) (hl:0<l.length∧l.length≤1000000) (hb:(aD l).length≤10000000):AC gs Tryz.prog 114 [dA n l k] [.op 0 (some n) 0,.c (.int .i64 least),.c (.int .i64 most)] (fun r H'=>r=.c (.int .i64 (aZ ⟨3,least,most⟩ l k).2.n)∧H'=[dA n (aZ ⟨3,least,most⟩ l k).1.1 (aZ ⟨3,least,most⟩ l k).1.2]):=by
 have h:=IS (gs:=gs) n l k least most hl hb
 rw [qH l k (show ¬ (3:Int)=0 by decide),ln vN 0 rfl (t:=2) (f:=fun b=>aI b least most) (by show ¬ (3:Int)=1;decide) (by show ¬ (3:Int)=2;decide) (by show ¬ (3:Int)=11;decide) (by funext b;rfl) rfl]
 exact h
theorem GW {gs:List Nat} [fZ gs] [mm gs] (least most:Int) (hl:0<l.length∧l.length≤1000000) (hb:(aD l).length≤10000000):AC gs Tryz.prog 121 [dA n l k] [.op 0 (some n) 0,.c (.int .i64 most)] (fun r H'=>r=au (aZ ⟨7,least,most⟩ l k).2.t∧H'=[dA n (aZ ⟨7,least,most⟩ l k).1.1 (aZ ⟨7,least,most⟩ l k).1.2]):=by
 have h:=wN (gs:=gs) n l k most hl hb
 rw [qH l k (show ¬ (7:Int)=0 by decide),ln vT [] rfl (t:=12) (f:=fun b=>(if aN b most=0 then b else [],aN b most)) (by show ¬ (7:Int)=1;decide) (by show ¬ (7:Int)=2;decide) (by show ¬ (7:Int)=11;decide) (by funext b;rfl) rfl]
 exact h
theorem ow {gs:List Nat} [fZ gs] (kind:Int) (hl:0<l.length∧l.length≤1000000) (hb:(aD l).length≤10000000):AC gs Tryz.prog 145 [dA n l k] [.op 0 (some n) 0,.c (.int .i64 kind),.c (.int .i64 kind)] (fun r H'=>r=.c (.int .i64 (aa (aK kind) l k).v.n)∧H'=[dA n (aa (aK kind) l k).l (aa (aK kind) l k).k]):=by
 have h:=xP (gs:=gs) n l k kind kind hl hb
 rw [ln vN 0 rfl (t:=10) (f:=fun b=>aI b kind kind) (by show ¬ (4:Int)=1;decide) (by show ¬ (4:Int)=2;decide) (by show ¬ (4:Int)=11;decide) (by funext b;rfl) rfl]
 exact h
end
def uN (kind:Int) (fR fP fG:FuncId):CV:=.agg 4 (fl [.c (.int .i64 kind),.fn fR 0 fun _=>.top,.fn fP 0 fun _=>.top,.fn fG 0 fun _=>.top])
end
section
open Go.RowKit Cal
def lC (vs:List V4):Nat→CV:=fl [.c (.int .i64 (vs.getD 0 V4.z).who.1),au (vs.getD 0 V4.z).who.2.1,au (vs.getD 0 V4.z).who.2.2,bu (vs.getD 1 V4.z).b,.c (.int .i64 (vs.getD 2 V4.z).n),.c (.int .i64 (vs.getD 3 V4.z).n),bu (vs.getD 4 V4.z).b,bu (vs.getD 5 V4.z).b]
def rE (vs:List V4):Nat→CV:=fl [.c (.int .i64 (vs.getD 0 V4.z).n),bu (vs.getD 1 V4.z).b,.c (.int .i64 (vs.getD 2 V4.z).n),.c (.int .i64 (vs.getD 3 V4.z).n),.c (.int .i64 (vs.getD 4 V4.z).n),.c (.int .i64 (vs.getD 5 V4.z).n),.c (.int .i64 (vs.getD 6 V4.z).n)]
def qP (vs:List V4):Nat→CV:=fl [.c (.int .i64 (vs.getD 0 V4.z).n),.c (.int .i64 (vs.getD 1 V4.z).n),.c (.int .i64 (vs.getD 2 V4.z).n),.c (.int .i64 (vs.getD 3 V4.z).n)]
def qo (vs:List V4):Nat→CV:=fl [au (vs.getD 0 V4.z).t,bu (vs.getD 1 V4.z).b,.c (.int .i64 (vs.getD 2 V4.z).n)]
def yZ (vs:List V4):Nat→CV:=fl [bu (vs.getD 0 V4.z).b,bu (vs.getD 1 V4.z).b]
theorem dT {gs:List Nat} (n x y:Int):bM gs Tryz.prog 202 [.c (.int .i64 n),.c (.int .i64 x),.c (.int .i64 y)] (.c (.bool (decide (x≤n) && decide (n≤y)))):=by
 refine ai 15 Tryz.func202 fun al w0 F0 St0=>?_;refine jU 12116516 ?_;refine ay 10 (fun g107=>?_) fun g107=>?_
 ·refine jU 8000700051100000000211 ?_;refine cB ?_
  (simp_all;done)
 refine jU 8000700051500444 ?_;refine cB ?_
 (rw [Bool.eq_iff_iff];simp;omega)
theorem fL {gs:List Nat} (n:Int):bM gs Tryz.prog 203 [.c (.int .i64 n)] (.c (.bool (decide (0≤n) && decide (n≤253402300799)))):=by
 refine ai 5 Tryz.func203 fun al w0 F0 St0=>?_;refine jU 16516 ?_
 refine ak (ap (dT n 0 253402300799) ?_)
 refine jU 51 ?_
 refine jR cX
set_option maxHeartbeats 2000000 in
theorem mF {gs:List Nat} (v0 v1 v2 v3 v4 v5:V4):bM gs Tryz.prog 141 [.agg 8 (lC [v0,v1,v2,v3,v4,v5])] (.c (.bool (aQ 2 aM [v0,v1,v2,v3,v4,v5]))):=by
 have hR:aQ 2 aM [v0,v1,v2,v3,v4,v5]=(bx v0.who && ((decide ((1:Int)≤(v1.b.length:Nat)) && decide (((v1.b.length:Nat):Int)≤4096)) && ((decide (0≤v2.n) && decide (v2.n≤253402300799)) && ((decide (0≤v3.n) && decide (v3.n≤2)) && ((decide ((0:Int)≤(v4.b.length:Nat)) && decide (((v4.b.length:Nat):Int)≤4096)) && ((decide ((0:Int)≤(v5.b.length:Nat)) && decide (((v5.b.length:Nat):Int)≤4096)) && true))))) && ((decide (v5.b.length=0) || decide (0<v4.b.length)) && (decide (v4.b.length=0) || decide (v3.n=1)))):=rfl
 refine ai 61 Tryz.func141 fun al w0 F0 St0=>?_;refine cy ?_
 refine ak (cE 8 fun p1=>?_)
 refine jU 3505000000651 ?_
 refine ak (ap (dT _ _ _) ?_)
 refine jU 1 ?_;refine ay 9 (fun g114=>?_) fun g114=>?_
 rotate_left
 ·refine jU 651500444415004444 ?_;refine jq (da 7 1 false) ?_;refine jU 12350 ?_;refine ay 25 (fun g115=>?_) fun g115=>?_
  ·refine jU 123502000000011000000004444 ?_;refine ay 36 (fun g115_2=>?_) fun g115_2=>?_
   ·refine jU 8000700051500444150044415004441500411651100000000100000000444 ?_
    rw [hR]
    refine cB ?_
    (rw [Bool.eq_iff_iff];simp_all;omega)
   refine jU 80007000515004441500444150044415004116511000000005002506000000 ?_
   rw [hR]
   refine cB ?_
   (rw [Bool.eq_iff_iff];simp_all;omega)
  refine jU 1500235020000000 ?_;refine ay 31 (fun g115_2=>?_) fun g115_2=>?_
  rotate_left
  ·refine jU 8000700051500444150044415004441500411651500444444444 ?_
   rw [hR]
   refine cB ?_
   (rw [Bool.eq_iff_iff];simp_all;done)
  refine jU 1235020000000 ?_;refine ay 36 (fun g115_3=>?_) fun g115_3=>?_
  ·refine jU 8000700051500444150044415004441500411651100000000100000000444 ?_
   rw [hR]
   refine cB ?_
   (rw [Bool.eq_iff_iff];simp;omega)
  refine jU 80007000515004441500444150044415004116511000000005002506000000 ?_
  rw [hR]
  refine cB ?_
  (rw [Bool.eq_iff_iff];simp_all;omega)
 refine jU 1100000000235020000000 ?_;refine ay 15 (fun g114_2=>?_) fun g114_2=>?_
 rotate_left
 ·refine jU 6515004444 ?_;refine jq (da 7 1 false) ?_;refine jU 12350 ?_;refine ay 25 (fun g115=>?_) fun g115=>?_
  ·refine jU 123502000000011000000004444 ?_;refine ay 36 (fun g115_2=>?_) fun g115_2=>?_
   ·refine jU 8000700051500444150044415004441500411651100000000100000000444 ?_
    rw [hR]
    refine cB ?_
    (rw [Bool.eq_iff_iff];simp;omega)
   refine jU 80007000515004441500444150044415004116511000000005002506000000 ?_
   rw [hR]
   refine cB ?_
   (rw [Bool.eq_iff_iff];simp_all;omega)
  refine jU 1500235020000000 ?_;refine ay 31 (fun g115_2=>?_) fun g115_2=>?_
  rotate_left
  ·refine jU 8000700051500444150044415004441500411651500444444444 ?_
   rw [hR]
   refine cB ?_
   (rw [Bool.eq_iff_iff];simp;omega)
  refine jU 1235020000000 ?_;refine ay 36 (fun g115_3=>?_) fun g115_3=>?_
  ·refine jU 8000700051500444150044415004441500411651100000000100000000444 ?_
   rw [hR]
   refine cB ?_
   (rw [Bool.eq_iff_iff];simp;omega)
  refine jU 80007000515004441500444150044415004116511000000005002506000000 ?_
  rw [hR]
  refine cB ?_
  (rw [Bool.eq_iff_iff];simp_all;omega)
 refine jq (da 7 1 false) ?_;refine jU 6511000000002350 ?_;refine jq (da 7 1 false) ?_;refine jU 12350 ?_;refine ay 25 (fun g115=>?_) fun g115=>?_
 ·refine jU 123502000000011000000004444 ?_;refine ay 36 (fun g115_2=>?_) fun g115_2=>?_
  ·refine jU 11651100000000100000000444 ?_;refine ay 43 (fun g116=>?_) fun g116=>?_
   rotate_left
   ·refine jU 80007000515004441500444150044415004 ?_
    rw [hR]
    refine cB ?_
    (rw [Bool.eq_iff_iff];simp;omega)
   refine jU 11000000001 ?_;refine jq (da 0 3 true) ?_;refine eL (aV 3) ?_
   refine ak (ap (l8 v0.who) ?_)
   refine jU 1100000000 ?_;refine ay 51 (fun g116_2=>?_) fun g116_2=>?_
   rotate_left
   ·refine jU 80007000515004441500444 ?_
    rw [hR]
    refine cB ?_
    (rw [Bool.eq_iff_iff];simp_all;done)
   refine jU 507000000 ?_
   refine ak (ap (fL _) ?_)
   refine jU 1100000000 ?_;refine ay 56 (fun g116_3=>?_) fun g116_3=>?_
   ·refine jU 506000000 ?_
    refine ak (ap (dT _ _ _) ?_)
    refine jU 8000700051100000000 ?_
    rw [hR]
    refine cB ?_
    (rw [Bool.eq_iff_iff];simp_all;done)
   refine jU 8000700051500444 ?_
   rw [hR]
   refine cB ?_
   (rw [Bool.eq_iff_iff];simp_all;omega)
  refine jU 116511000000005002506000000 ?_;refine ay 43 (fun g116=>?_) fun g116=>?_
  rotate_left
  ·refine jU 80007000515004441500444150044415004 ?_
   rw [hR]
   refine cB ?_
   (rw [Bool.eq_iff_iff];simp;omega)
  refine jU 11000000001 ?_;refine ay 46 (fun g116_2=>?_) fun g116_2=>?_
  rotate_left
  ·refine jU 800070005150044415004441500444 ?_
   rw [hR]
   refine cB ?_
   (rw [Bool.eq_iff_iff];simp_all;done)
  refine jq (da 0 3 true) ?_;refine eL (aV 3) ?_
  refine ak (ap (l8 v0.who) ?_)
  refine jU 1100000000 ?_;refine ay 51 (fun g116_3=>?_) fun g116_3=>?_
  rotate_left
  ·refine jU 80007000515004441500444 ?_
   rw [hR]
   refine cB ?_
   (rw [Bool.eq_iff_iff];simp_all;done)
  refine jU 507000000 ?_
  refine ak (ap (fL _) ?_)
  refine jU 1100000000 ?_;refine ay 56 (fun g116_4=>?_) fun g116_4=>?_
  ·refine jU 506000000 ?_
   refine ak (ap (dT _ _ _) ?_)
   refine jU 8000700051100000000 ?_
   rw [hR]
   refine cB ?_
   (rw [Bool.eq_iff_iff];simp_all;done)
  refine jU 8000700051500444 ?_
  rw [hR]
  refine cB ?_
  (rw [Bool.eq_iff_iff];simp_all;done)
 refine jU 1500235020000000 ?_;refine ay 31 (fun g115_2=>?_) fun g115_2=>?_
 rotate_left
 ·refine jU 11651500444444444 ?_;refine ay 43 (fun g116=>?_) fun g116=>?_
  ·refine jU 80007000515004441500444150044411000000001 ?_
   rw [hR]
   refine cB ?_
   (rw [Bool.eq_iff_iff];simp_all;done)
  refine jU 80007000515004441500444150044415004 ?_
  rw [hR]
  refine cB ?_
  (rw [Bool.eq_iff_iff];simp_all;done)
 refine jU 1235020000000 ?_;refine ay 36 (fun g115_3=>?_) fun g115_3=>?_
 ·refine jU 11651100000000100000000444 ?_;refine ay 43 (fun g116=>?_) fun g116=>?_
  rotate_left
  ·refine jU 80007000515004441500444150044415004 ?_
   rw [hR]
   refine cB ?_
   (rw [Bool.eq_iff_iff];simp;omega)
  refine jU 11000000001 ?_;refine jq (da 0 3 true) ?_;refine eL (aV 3) ?_
  refine ak (ap (l8 v0.who) ?_)
  refine jU 1100000000 ?_;refine ay 51 (fun g116_2=>?_) fun g116_2=>?_
  rotate_left
  ·refine jU 80007000515004441500444 ?_
   rw [hR]
   refine cB ?_
   (rw [Bool.eq_iff_iff];simp;omega)
  refine jU 507000000 ?_
  refine ak (ap (fL _) ?_)
  refine jU 1100000000 ?_;refine ay 56 (fun g116_3=>?_) fun g116_3=>?_
  ·refine jU 506000000 ?_
   refine ak (ap (dT _ _ _) ?_)
   refine jU 8000700051100000000 ?_
   rw [hR]
   refine cB ?_
   (rw [Bool.eq_iff_iff];simp;omega)
  refine jU 8000700051500444 ?_
  rw [hR]
  refine cB ?_
  (rw [Bool.eq_iff_iff];simp;omega)
 refine jU 116511000000005002506000000 ?_;refine ay 43 (fun g116=>?_) fun g116=>?_
 rotate_left
 ·refine jU 80007000515004441500444150044415004 ?_
  rw [hR]
  refine cB ?_
  (rw [Bool.eq_iff_iff];simp_all;omega)
 refine jU 11000000001 ?_;refine ay 46 (fun g116_2=>?_) fun g116_2=>?_
 rotate_left
 ·refine jU 800070005150044415004441500444 ?_
  rw [hR]
  refine cB ?_
  (rw [Bool.eq_iff_iff];simp_all;done)
 refine jq (da 0 3 true) ?_;refine eL (aV 3) ?_
 refine ak (ap (l8 v0.who) ?_)
 refine jU 1100000000 ?_;refine ay 51 (fun g116_3=>?_) fun g116_3=>?_
 rotate_left
 ·refine jU 80007000515004441500444 ?_
  rw [hR]
  refine cB ?_
  (rw [Bool.eq_iff_iff];simp_all;done)
 refine jU 507000000 ?_
 refine ak (ap (fL _) ?_)
 refine jU 1100000000 ?_;refine ay 56 (fun g116_4=>?_) fun g116_4=>?_
 ·refine jU 506000000 ?_
  refine ak (ap (dT _ _ _) ?_)
  refine jU 8000700051100000000 ?_
  rw [hR]
  refine cB ?_
  (rw [Bool.eq_iff_iff];simp_all;done)
 refine jU 8000700051500444 ?_
 rw [hR]
 refine cB ?_
 (rw [Bool.eq_iff_iff];simp_all;done)
set_option maxHeartbeats 2000000 in
theorem qE {gs:List Nat} (v0 v1 v2 v3 v4 v5 v6:V4):bM gs Tryz.prog 147 [.agg 7 (rE [v0,v1,v2,v3,v4,v5,v6])] (.c (.bool (aQ 3 bU [v0,v1,v2,v3,v4,v5,v6]))):=by
 have hR:aQ 3 bU [v0,v1,v2,v3,v4,v5,v6]=((decide (1≤v0.n) && decide (v0.n≤1048576)) && ((decide ((16:Int)≤(v1.b.length:Nat)) && decide (((v1.b.length:Nat):Int)≤64)) && ((decide (1≤v2.n) && decide (v2.n≤4)) && ((decide (0≤v3.n) && decide (v3.n≤253402300799)) && ((decide (0≤v4.n) && decide (v4.n≤253402300799)) && ((decide (0≤v5.n) && decide (v5.n≤253402300799)) && ((decide (0≤v6.n) && decide (v6.n≤1099511627776)) && true)))))) && decide (v3.n≤v4.n)):=rfl
 refine ai 46 Tryz.func147 fun al w0 F0 St0=>?_;refine cy ?_
 refine ak (cE 7 fun p1=>?_)
 refine jU 505000000651 ?_
 refine ak (ap (fL _) ?_)
 refine jU 1 ?_;refine ay 7 (fun g121=>?_) fun g121=>?_
 rotate_left
 ·refine jU 80007000515004441500444150044441500444116515004441500444441500444 ?_
  rw [hR]
  refine cB ?_
  (rw [Bool.eq_iff_iff];simp_all;omega)
 refine jU 507000000 ?_
 refine ak (ap (fL _) ?_)
 refine jU 1100000000 ?_;refine ay 12 (fun g121_2=>?_) fun g121_2=>?_
 rotate_left
 ·refine jU 8000700051500444150044415004444150044411651500444150044444 ?_
  rw [hR]
  refine cB ?_
  (rw [Bool.eq_iff_iff];simp_all;omega)
 refine jU 11000000002507000000505000000 ?_;refine ay 19 (fun g121_3=>?_) fun g121_3=>?_
 rotate_left
 ·refine jU 8000700051500444150044415004444150044411651500444 ?_
  rw [hR]
  refine cB ?_
  (rw [Bool.eq_iff_iff];simp_all;done)
 refine jU 506000000 ?_
 refine ak (ap (fL _) ?_)
 refine jU 11651100000000 ?_;refine ay 25 (fun g122=>?_) fun g122=>?_
 rotate_left
 ·refine jU 80007000515004441500444150044441500444 ?_
  rw [hR]
  refine cB ?_
  (rw [Bool.eq_iff_iff];simp_all;omega)
 refine jU 5090 ?_
 refine ak (ap (dT _ _ _) ?_)
 refine jU 1100000000 ?_;refine ay 30 (fun g122_2=>?_) fun g122_2=>?_
 rotate_left
 ·refine jU 8000700051500444150044415004444 ?_
  rw [hR]
  refine cB ?_
  (rw [Bool.eq_iff_iff];simp_all;omega)
 refine jU 350100 ?_
 refine ak (ap (dT _ _ _) ?_)
 refine jU 1100000000 ?_;refine ay 36 (fun g122_3=>?_) fun g122_3=>?_
 rotate_left
 ·refine jU 80007000515004441500444 ?_
  rw [hR]
  refine cB ?_
  (rw [Bool.eq_iff_iff];simp_all;omega)
 refine jU 501000 ?_
 refine ak (ap (dT _ _ _) ?_)
 refine jU 1100000000 ?_;refine ay 41 (fun g122_4=>?_) fun g122_4=>?_
 ·refine jU 5020000000 ?_
  refine ak (ap (dT _ _ _) ?_)
  refine jU 8000700051100000000 ?_
  rw [hR]
  refine cB ?_
  (rw [Bool.eq_iff_iff];simp_all;done)
 refine jU 8000700051500444 ?_
 rw [hR]
 refine cB ?_
 (rw [Bool.eq_iff_iff];simp_all;omega)
set_option maxHeartbeats 2000000 in
theorem qD {gs:List Nat} (v0 v1 v2 v3:V4):bM gs Tryz.prog 159 [.agg 4 (qP [v0,v1,v2,v3])] (.c (.bool (aQ 4 cg [v0,v1,v2,v3]))):=by
 have hR:aQ 4 cg [v0,v1,v2,v3]=((decide (1≤v0.n) && decide (v0.n≤1048576)) && ((decide (1≤v1.n) && decide (v1.n≤1099511627776)) && ((decide (0≤v2.n) && decide (v2.n≤253402300799)) && ((decide (0≤v3.n) && decide (v3.n≤253402300799)) && true))) && true):=rfl
 refine ai 21 Tryz.func159 fun al w0 F0 St0=>?_;refine cy ?_
 refine ak (cE 4 fun p1=>?_)
 refine jU 5090651 ?_
 refine ak (ap (dT _ _ _) ?_)
 refine jU 1 ?_;refine ay 6 (fun g127=>?_) fun g127=>?_
 rotate_left
 ·refine jU 800070005150044415004441500444 ?_
  rw [hR]
  refine cB ?_
  (rw [Bool.eq_iff_iff];simp_all;omega)
 refine jU 50100 ?_
 refine ak (ap (dT _ _ _) ?_)
 refine jU 1100000000 ?_;refine ay 11 (fun g127_2=>?_) fun g127_2=>?_
 rotate_left
 ·refine jU 80007000515004441500444 ?_
  rw [hR]
  refine cB ?_
  (rw [Bool.eq_iff_iff];simp_all;omega)
 refine jU 501000 ?_
 refine ak (ap (fL _) ?_)
 refine jU 1100000000 ?_;refine ay 16 (fun g127_3=>?_) fun g127_3=>?_
 ·refine jU 505000000 ?_
  refine ak (ap (fL _) ?_)
  refine jU 8000700051100000000 ?_
  rw [hR]
  refine cB ?_
  (rw [Bool.eq_iff_iff];simp_all;done)
 refine jU 8000700051500444 ?_
 rw [hR]
 refine cB ?_
 (rw [Bool.eq_iff_iff];simp_all;omega)
set_option maxHeartbeats 2000000 in
theorem qC {gs:List Nat} (v0 v1 v2:V4):bM gs Tryz.prog 162 [.agg 3 (qo [v0,v1,v2])] (.c (.bool (aQ 7 co [v0,v1,v2]))):=by
 have hR:aQ 7 co [v0,v1,v2]=(lc v0.t && ((decide ((32:Int)≤(v1.b.length:Nat)) && decide (((v1.b.length:Nat):Int)≤32)) && ((decide (0≤v2.n) && decide (v2.n≤253402300799)) && true)) && true):=rfl
 refine ai 17 Tryz.func162 fun al w0 F0 St0=>?_;refine cy ?_
 refine ak (cE 3 fun p1=>?_)
 refine jU 5090651 ?_
 refine ak (ap (vh v0.t) ?_)
 refine jU 1 ?_;refine ay 6 (fun g132=>?_) fun g132=>?_
 rotate_left
 ·refine jU 800070005150044415004444 ?_
  rw [hR]
  refine cB ?_
  (rw [Bool.eq_iff_iff];simp_all;done)
 refine jU 11000000002350100 ?_;refine ay 12 (fun g132_2=>?_) fun g132_2=>?_
 ·refine jU 501000 ?_
  refine ak (ap (fL _) ?_)
  refine jU 8000700051100000000 ?_
  rw [hR]
  refine cB ?_
  (rw [Bool.eq_iff_iff];simp_all;done)
 refine jU 8000700051500444 ?_
 rw [hR]
 refine cB ?_
 (rw [Bool.eq_iff_iff];simp_all;omega)
set_option maxHeartbeats 2000000 in
theorem sU {gs:List Nat} (v0 v1:V4):bM gs Tryz.prog 165 [.agg 2 (yZ [v0,v1])] (.c (.bool (aQ 6 dN [v0,v1]))):=by
 have hR:aQ 6 dN [v0,v1]=((decide ((1:Int)≤(v0.b.length:Nat)) && decide (((v0.b.length:Nat):Int)≤4096)) && ((decide ((0:Int)≤(v1.b.length:Nat)) && decide (((v1.b.length:Nat):Int)≤4096)) && true) && true):=rfl
 refine ai 13 Tryz.func165 fun al w0 F0 St0=>?_;refine cy ?_
 refine ak (cE 2 fun p1=>?_)
 refine jU 35090651 ?_
 refine ak (ap (dT _ _ _) ?_)
 refine jU 1 ?_;refine ay 7 (fun g136=>?_) fun g136=>?_
 ·refine jU 80007000511000000002350100 ?_
  rw [hR]
  refine cB ?_
  (rw [Bool.eq_iff_iff];simp_all;done)
 refine jU 80007000515004444 ?_
 rw [hR]
 refine cB ?_
 (rw [Bool.eq_iff_iff];simp_all;omega)
end
end Am
end Go.Proofs.YthlpfjnkieaeeaaGreatDoor
