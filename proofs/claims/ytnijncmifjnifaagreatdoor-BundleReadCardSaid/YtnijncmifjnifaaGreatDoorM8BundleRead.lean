/- What the law leans on, part 8: W08a, W08b, W08c, W08d, W08e, W08f, SsF, SsJ, W05f, W05g, W05h, W06c, P06c, W06d, W06e, W08g, W08h, W08p, P08r, P08c, P08d, P08h, P08i, P08m, P08f, W09n, W09o, W09p, W09q, W09r -/
import Derived.Test.YtnijncmifjnifaaGreatDoorM7BundleRead

set_option maxRecDepth 100000
namespace Go.Proofs.YtnijncmifjnifaaGreatDoor
set_option linter.unusedVariables false
namespace Am
open Go.RowKit
section
def rdE (l:List (List UInt8)) (k:Nat) (z:Nat×Option Nat):List (Option Nat×Res):=[(some z.1,.blk 2 (fl [.os 1 z.2 0 l.length 1,.err k])),(z.2,.blk l.length (lbF l))]
def rdO (n:Nat) (l:List (List UInt8)) (k:Nat):Option Nat×Res:=objE n (fun z:Nat×Option Nat=>z.1) (rdE l k)
section
variable {P:Program} {G:Gh} {s:AS} {c:Code} {R:Exit→AS→Prop} {n k:Nat} {l:List (List UInt8)}
theorem code_openR0 (i:Nat) (hi:s.H[i]?=some (rdO n l k)) (h:∀ gl,ACode P G c ⟨s.env,s.b,s.H.set i (some n,.blk 2 (fl [.os s.H.length gl 0 l.length 1,.err k]))++[(gl,.blk l.length (lbF l))]⟩ R):ACode P G c s R:=by
 have hlt:=(List.getElem?_eq_some_iff.1 hi).1
 refine code_unpack i hi fun z hz=>?_
 obtain ⟨n',gl⟩:=z
 obtain rfl:n'=n:=hz
 refine jE (weakH i 2 (fl [.os s.H.length gl 0 l.length 1,.err k]) (n:=2) (g:=some n') (f:=fl [.os 1 gl 0 l.length 1,.err k]) ?_ (Nat.le_refl _) fun j hj=>?_) ?_
 ·show (s.H.set i _++_)[i]?=_
  rw [List.getElem?_append_left (by simpa using hlt)]
  simp [hlt]
 ·rcases j with _|_|j
  ·exact cO rfl
  ·exact cZ
  ·omega
 ·have e:(s.H.set i (some n',Res.blk 2 (fl [.os 1 gl 0 l.length 1,.err k]))++[(gl,Res.blk l.length (lbF l))]).set i (some n',.blk 2 (fl [.os s.H.length gl 0 l.length 1,.err k]))=s.H.set i (some n',.blk 2 (fl [.os s.H.length gl 0 l.length 1,.err k]))++[(gl,.blk l.length (lbF l))]:=by
   rw [List.set_append_left _ _ (by simpa using hlt),List.set_set]
  have:=h gl
  rw [← e] at this
  exact this
theorem closeR0 (n k:Nat) (l:List (List UInt8)) (i j:Nat) {gl:Option Nat} {N:Nat} {f F:Nat→CV} (hi:s.H[i]?=some (some n,.blk 2 f)) (hj:s.H[j]?=some (gl,.blk N F)) (hij:Nat.beq i j=false) (h0:CEnt (f 0) (.os 1 gl 0 l.length 1)) (h1:CEnt (f 1) (.err k)) (hN:l.length≤N) (hF:∀ a,a<l.length→CEnt (F a) (lbF l a)) :
  EntS G s ⟨s.env,s.b,(s.H.set i (rdO n l k)).set j (none,.dead)⟩:=by
 have hij:=Nat.ne_of_beq_eq_false hij
 have hil:=(List.getElem?_eq_some_iff.1 hi).1
 have hjl:=(List.getElem?_eq_some_iff.1 hj).1
 refine EntS.hrel fun h=>?_
 have h2:=h.weak (F:=fl [.os 1 gl 0 l.length 1,.err k]) hi (Nat.le_refl _) fun a ha=>by
  rcases a with _|_|a
  ·exact h0
  ·exact h1
  ·omega
 have h3:=h2.weak (i:=j) (F:=lbF l) (by rw [List.getElem?_set_ne hij];exact hj) hN hF
 have h4:=h3.closeN (gd:=fun z:Nat×Option Nat=>z.1) (E:=rdE l k) (n,gl) i [j] (by simp [hij]) (by simp [hil,hjl]) (by
  simp only [pickL,List.map_cons,List.map_nil,List.getD_eq_getElem?_getD]
  rw [List.getElem?_set_ne (Ne.symm hij)]
  simp [hil,hjl,rdE])
 have e:killL (((s.H.set i (some n,Res.blk 2 (fl [CV.os 1 gl 0 l.length 1,CV.err k]))).set j (gl,Res.blk l.length (lbF l))).set i (objE n (fun z:Nat×Option Nat=>z.1) (rdE l k))) [j]=(s.H.set i (rdO n l k)).set j (none,.dead):=by
  show ((((s.H.set i _).set j _).set i _).set j _)=_
  rw [List.set_comm _ _ (Ne.symm hij),List.set_set,List.set_set]
  rfl
 rw [← e]
 exact h4
theorem code_openR {env:List (Nat×CV)} {b0:Nat→CV} {H:List (Option Nat×Res)} (i:Nat) (hi:H[i]?=some (rdO n l k)) (h:∀ gl,ACode P G c ⟨env,b0,H.set i (some n,.blk 2 (fl [.os H.length gl 0 l.length 1,.err k]))++[(gl,.blk l.length (lbF l))]⟩ R):ACode P G c ⟨env,b0,H⟩ R:=code_openR0 i hi h
theorem closeR {env:List (Nat×CV)} {b0:Nat→CV} {H:List (Option Nat×Res)} (n k:Nat) (l:List (List UInt8)) (i j:Nat) {gl:Option Nat} {N:Nat} {f F:Nat→CV} (hi:H[i]?=some (some n,.blk 2 f)) (hj:H[j]?=some (gl,.blk N F)) (hij:Nat.beq i j=false) (h0:CEnt (f 0) (.os 1 gl 0 l.length 1)) (h1:CEnt (f 1) (.err k)) (hN:l.length≤N) (hF:∀ a,a<l.length→CEnt (F a) (lbF l a)) :
  EntS G ⟨env,b0,H⟩ ⟨env,b0,(H.set i (rdO n l k)).set j (none,.dead)⟩:=closeR0 n k l i j hi hj hij h0 h1 hN hF
end
def nowL (l:List (List UInt8)):List UInt8:=l.getD (l.length-1) []
def moreM (l:List (List UInt8)) (k:Nat):Bool:=decide (k=0) && decide (0<(nowL l).length)
theorem now_ac {gs:List Nat} (n:Nat) (l:List (List UInt8)) (k:Nat) (hl:0<l.length∧l.length≤1000000):AC gs Tryz.prog 77 [rdO n l k] [.op 0 (some n) 0] (fun r H'=>r=bsC (nowL l)∧H'=[rdO n l k]):=by
 refine ac_oF 15 Tryz.func77 fun al w0 F0 St0=>?_;refine code_openR 0 rfl fun gl=>?_;refine jU 7516 ?_
 skip
 refine jcd (oN 0 13) ?_;refine jU 3000020000100009000005000070100009000005000070 ?_;refine jyq (jri (i:=(l.length-1)) (hz:=by omega)) ?_;refine jU 70008807010000 ?_
 exact end_pack (gd:=fun z:Nat×Option Nat=>z.1) (E:=rdE l k) (.inl rfl) _ (n,gl) [0,1] (by decide) rfl (res_1 rfl (arv_tmp rfl)) ⟨rfl,rfl⟩
theorem fail08_ac {gs:List Nat} (n:Nat) (l:List (List UInt8)) (k e:Nat):AC gs Tryz.prog 87 [rdO n l k] [.op 0 (some n) 0,.err e] (fun r H'=>r=.c (.tuple #[])∧H'=[rdO n l (if k=0 then e else k)]):=by
 refine ac_oF 13 Tryz.func87 fun al w0 F0 St0=>?_;refine code_openR 0 rfl fun gl=>?_;refine jU 5500000501004016 ?_;refine jF3 1004011200 10 (fun h161=>?_) fun h161=>?_
 rotate_left
 ·rw [if_neg (by omega)]
  exact end_pack (gd:=fun z:Nat×Option Nat=>z.1) (E:=rdE l k) (.inr rfl) _ (n,gl) [0,1] (by decide) rfl (res_0 rfl) ⟨rfl,rfl⟩
 refine jqm (jmstF 1 (fl [.os 1 gl 0 l.length 1,.err e]) ?_ ?_)
 ·exact jal
 refine jU 5 ?_
 rw [if_pos (by omega)]
 exact end_pack (gd:=fun z:Nat×Option Nat=>z.1) (E:=rdE l e) (.inr rfl) _ (n,gl) [0,1] (by decide) rfl (res_0 rfl) ⟨rfl,rfl⟩
theorem err08_ac {gs:List Nat} (n:Nat) (l:List (List UInt8)) (k:Nat):AC gs Tryz.prog 90 [rdO n l k] [.op 0 (some n) 0] (fun r H'=>r=.err k∧H'=[rdO n l k]):=by
 refine ac_oF 7 Tryz.func90 fun al w0 F0 St0=>?_;refine code_openR 0 rfl fun gl=>?_;refine jU 516 ?_
 skip
 refine jU 700051501004016 ?_
 exact end_pack (gd:=fun z:Nat×Option Nat=>z.1) (E:=rdE l k) (.inl rfl) _ (n,gl) [0,1] (by decide) rfl (res_1 rfl (arv_tmp rfl)) ⟨rfl,rfl⟩
theorem more_pos {l:List (List UInt8)} {k:Nat} (h:moreM l k=true):k=0∧0<(nowL l).length:=by simpa [moreM] using h
theorem more_ac {gs:List Nat} (n:Nat) (l:List (List UInt8)) (k:Nat) (hl:0<l.length∧l.length≤1000000):AC gs Tryz.prog 86 [rdO n l k] [.op 0 (some n) 0] (fun r H'=>r=.c (.bool (moreM l k))∧H'=[rdO n l k]):=by
 refine ac_oF 14 Tryz.func86 fun al w0 F0 St0=>?_;refine code_openR 0 rfl fun gl=>?_;refine jU 516 ?_
 skip
 refine jU 501004016 ?_;refine seq_ent (closeR n k l 0 1 rfl rfl rfl cZ cZ (Nat.le_refl _) (fun _ _=>cZ)) ?_;refine jU 1500000 ?_;refine jF4 1 7000515004444 8 (fun g173=>?_) fun g173=>?_
 ·refine jF2 70005110000000023 0 (now_ac n l k hl) ?_
  exact jnh (hv:=(cB (by unfold moreM;(simp [g173];done))))
 exact jnh (hv:=(cB (by unfold moreM;(simp [g173];done))))
end
section
variable {gs:List Nat} [Ok9 gs]

structure NR where
 l:List (List UInt8)
 k:Nat
 tag:Nat
 body:List UInt8
 raw:List UInt8
 is:Bool
def nextR (tag:Int) (l:List (List UInt8)) (k:Nat):NR :=
 if k≠0 then ⟨l,k,0,[],[],false⟩ else
 if (nextM (nowL l)).e≠0 then ⟨l,(nextM (nowL l)).e,0,[],[],false⟩ else
 if tag≠0∧((nextM (nowL l)).tag:Int)≠tag then ⟨l,5,0,[],[],false⟩ else
 ⟨l.set (l.length-1) (nextM (nowL l)).rest,0,(nextM (nowL l)).tag,(nextM (nowL l)).body,(nowL l).take ((nowL l).length-(nextM (nowL l)).rest.length),true⟩
theorem lb_set {l:List (List UInt8)} {i:Nat} {x:List UInt8} {j:Nat} (hj:j<l.length):CEnt (updF (lbF l) i [bsC x] j) (lbF (l.set i x) j):=by
 refine CEnt.of_eq ?_
 rw [updF_get]
 simp only [lbF,List.length_singleton,List.getD_eq_getElem?_getD,List.getElem?_set]
 by_cases h:i=j
 ·subst h
  rw [if_pos (by omega),if_pos rfl,if_pos hj,Nat.sub_self]
  rfl
 ·rw [if_neg (by omega),if_neg h]
theorem nextR_ac (n:Nat) (l:List (List UInt8)) (k:Nat) (tag:Int) (hl:0<l.length∧l.length≤1000000) (hb:(nowL l).length≤10000000):AC gs Tryz.prog 79 [rdO n l k] [.op 0 (some n) 0,.c (.int .i64 tag)]
  (fun r H'=>r=.tup 3 (fl [elC (nextR tag l k).tag (nextR tag l k).body,bsC (nextR tag l k).raw,.c (.bool (nextR tag l k).is)])∧H'=[rdO n (nextR tag l k).l (nextR tag l k).k]):=by
 have hnb:=nextM_bd (nowL l)
 refine ac_oF 67 Tryz.func79 fun al w0 F0 St0=>?_;refine jcr ?_
 refine jqe (jeal (n:=2) zr130 rfl fun p1=>?_)
 refine jU 7511 ?_;refine code_openR 0 rfl fun gl=>?_;refine jU 5500000501004016 ?_;refine jF3 0 810 (fun h185=>?_) fun h185=>?_
 ·refine jE (closeR n k l 0 2 rfl rfl rfl (cO rfl) cZ (Nat.le_refl _) (fun _ _=>cZ)) ?_;refine jnm ?_;refine jcr ?_;refine jq (rd_build (n:=2) rfl zr130 pl130 rfl rfl) ?_;refine jF7 30007000511 2 ?_
  have hN:nextR tag l k=⟨l,k,0,[],[],false⟩:=by unfold nextR;rw [if_pos (by omega)]
  rw [hN]
  refine end_H (.inl rfl) rfl (res_3 rfl (javA 2) javt javt) ?_
  exact CEnt.tup3 (CEnt.agg2 cZ cN) cN cZ
 obtain rfl:k=0:=by omega
 refine jE (closeR n 0 l 0 2 rfl rfl rfl (cO rfl) cZ (Nat.le_refl _) (fun _ _=>cZ)) ?_;refine jnm ?_;refine jU 16 ?_
 refine jqm (jmcE 0 (now_ac n l 0 hl) ?_)
 refine jF1 9009009001 (next_ac (nowL l) hb) ?_
 refine jqe (jeal (n:=2) zr130 rfl fun p3=>?_)
 refine jF7 5150000016207511 2 ?_;refine jF3 0 1216 (fun h190=>?_) fun h190=>?_
 ·refine code_openR 0 rfl fun gl2=>?_;refine jU 1004011200 ?_
  refine jqm (jmstF 1 (fl [.os 4 gl2 0 l.length 1,.err (nextM (nowL l)).e]) ?_ ?_)
  ·exact jal
  refine jU 84005 ?_
  first
   | refine jE (closeR n (nextM (nowL l)).e l 0 4 rfl rfl rfl (cO rfl) cZ (Nat.le_refl _) (fun _ _=>cZ)) ?_
   | refine jE (closeR n 5 l 0 4 rfl rfl rfl (cO rfl) cZ (Nat.le_refl _) (fun _ _=>cZ)) ?_
  refine jcr ?_;refine jq (rd_build (n:=2) rfl zr130 pl130 rfl rfl) ?_;refine jF7 7000511 2 ?_
  first
   |(have hN:nextR tag l 0=⟨l,(nextM (nowL l)).e,0,[],[],false⟩:=by unfold nextR;rw [if_neg (by omega),if_pos (by omega)])
   |(have hN:nextR tag l 0=⟨l,5,0,[],[],false⟩:=by unfold nextR;rw [if_neg (by omega),if_neg (by omega),if_pos (by omega)])
  rw [hN]
  refine end_H (.inl rfl) rfl (res_3 rfl (javA 2) javt javt) ?_
  exact CEnt.tup3 (CEnt.agg2 cZ cN) cN cZ
 refine jF4 51100000000215090 16300515004444 56 (fun g192=>?_) fun g192=>?_
 rotate_left
 ·refine jF2 751 0 (now_ac n l 0 hl) ?_;refine code_openR 0 rfl fun gl2=>?_;refine jcdB 12 (oN 0 12) ?_;refine jU 703000020000100009000005000070100009000005000070 ?_;refine jyq (jri (i:=(l.length-1)) (hz:=by omega)) ?_;refine jyd ?_
  show ASeq _ _ _ _ _ _
  refine jqm (jmstF 1 (lbF (l.set (l.length-1) (nextM (nowL l)).rest)) ?_ ?_)
  ·exact (fun j hj=>lb_set hj)
  refine jU 785 ?_;refine jE (closeR n 0 (l.set (l.length-1) (nextM (nowL l)).rest) 0 4 rfl rfl rfl (cO (by simp)) cZ (by simp) (fun _ _=>cZ)) ?_;refine jnm ?_;refine jE (freeze 3 rfl) ?_;refine jE (thawP 7 (m:=2) rfl rfl (by decide)) ?_;refine jcdZ (oT [0,2,4,6,8,10,12,14,17,18,20] .done) ?_;refine jzq (jrdrA 2) ?_;refine jU 400000400000 ?_;refine jzq jrl ?_;refine jzq jrm ?_;refine jzq jrl ?_;refine jzq jra ?_;refine jzq jrst ?_
  refine jzm (jmst 2 ?_)
  refine jU 3000500070008700000400000400000 ?_
  have hN:nextR tag l 0=⟨l.set (l.length-1) (nextM (nowL l)).rest,0,(nextM (nowL l)).tag,(nextM (nowL l)).body,(nowL l).take ((nowL l).length-(nextM (nowL l)).rest.length),true⟩:=by unfold nextR;rw [if_neg (by omega),if_neg (by omega),if_neg (by omega)]
  rw [hN]
  refine end_H (.inl rfl) rfl (res_3 rfl (javA 2) javt javt) ?_
  exact CEnt.tup3 (CEnt.agg2 cZ cZ) (CEnt.bs (by congr 1;omega)) cZ
 refine jF3 0 16 (fun h192=>?_) fun h192=>?_
 ·refine code_openR 0 rfl fun gl2=>?_;refine jU 1200 ?_;refine jq (jrde 4) ?_;refine jU 10040 ?_
  refine jqm (jmstF 1 (fl [.os 4 gl2 0 l.length 1,.err 5]) ?_ ?_)
  ·exact jal
  refine jU 84005 ?_
  first
   | refine jE (closeR n (nextM (nowL l)).e l 0 4 rfl rfl rfl (cO rfl) cZ (Nat.le_refl _) (fun _ _=>cZ)) ?_
   | refine jE (closeR n 5 l 0 4 rfl rfl rfl (cO rfl) cZ (Nat.le_refl _) (fun _ _=>cZ)) ?_
  refine jcr ?_;refine jq (rd_build (n:=2) rfl zr130 pl130 rfl rfl) ?_;refine jF7 7000511 2 ?_
  first
   |(have hN:nextR tag l 0=⟨l,(nextM (nowL l)).e,0,[],[],false⟩:=by unfold nextR;rw [if_neg (by omega),if_pos (by omega)])
   |(have hN:nextR tag l 0=⟨l,5,0,[],[],false⟩:=by unfold nextR;rw [if_neg (by omega),if_neg (by omega),if_pos (by omega)])
  rw [hN]
  refine end_H (.inl rfl) rfl (res_3 rfl (javA 2) javt javt) ?_
  exact CEnt.tup3 (CEnt.agg2 cZ cN) cN cZ
 refine jF2 751 0 (now_ac n l 0 hl) ?_;refine code_openR 0 rfl fun gl2=>?_;refine jcdB 12 (oN 0 12) ?_;refine jU 703000020000100009000005000070100009000005000070 ?_;refine jyq (jri (i:=(l.length-1)) (hz:=by omega)) ?_;refine jyd ?_
 show ASeq _ _ _ _ _ _
 refine jqm (jmstF 1 (lbF (l.set (l.length-1) (nextM (nowL l)).rest)) ?_ ?_)
 ·exact (fun j hj=>lb_set hj)
 refine jU 785 ?_;refine jE (closeR n 0 (l.set (l.length-1) (nextM (nowL l)).rest) 0 4 rfl rfl rfl (cO (by simp)) cZ (by simp) (fun _ _=>cZ)) ?_;refine jnm ?_;refine jE (freeze 3 rfl) ?_;refine jE (thawP 7 (m:=2) rfl rfl (by decide)) ?_;refine jcdZ (oT [0,2,4,6,8,10,12,14,17,18,20] .done) ?_;refine jzq (jrdrA 2) ?_;refine jU 400000400000 ?_;refine jzq jrl ?_;refine jzq jrm ?_;refine jzq jrl ?_;refine jzq jra ?_;refine jzq jrst ?_
 refine jzm (jmst 2 ?_)
 refine jU 3000500070008700000400000400000 ?_
 have hN:nextR tag l 0=⟨l.set (l.length-1) (nextM (nowL l)).rest,0,(nextM (nowL l)).tag,(nextM (nowL l)).body,(nowL l).take ((nowL l).length-(nextM (nowL l)).rest.length),true⟩:=by unfold nextR;rw [if_neg (by omega),if_neg (by omega),if_neg (by omega)]
 rw [hN]
 refine end_H (.inl rfl) rfl (res_3 rfl (javA 2) javt javt) ?_
 exact CEnt.tup3 (CEnt.agg2 cZ cZ) (CEnt.bs (by congr 1;omega)) cZ
end
section
variable {gs:List Nat} [Ok9 gs]

def enterR (tag:Int) (l:List (List UInt8)) (k:Nat):NR :=
 nextR tag l (if moreM l k=true∧madeM tag=false then 5 else k)
def enterL (tag:Int) (l:List (List UInt8)) (k:Nat):List (List UInt8):=if (enterR tag l k).is=true then (enterR tag l k).l++[(enterR tag l k).body] else (enterR tag l k).l
theorem enter_ac (n:Nat) (l:List (List UInt8)) (k:Nat) (tag:Int) (hl:0<l.length∧l.length≤1000000) (hb:(nowL l).length≤10000000):AC gs Tryz.prog 44 [rdO n l k] [.op 0 (some n) 0,.c (.int .i64 tag)]
  (fun r H'=>r=.c (.bool (enterR tag l k).is)∧H'=[rdO n (enterL tag l k) (enterR tag l k).k]):=by
 have hnl:∀ k,0<(nextR tag l k).l.length∧(nextR tag l k).l.length≤1000000:=fun k=>by
  unfold nextR
  split
  ·exact hl
  ·split
   ·exact hl
   ·split
    ·exact hl
    ·simp only [List.length_set];exact hl
 refine jF5 7516 48 Tryz.func44 fun al w0 F0 St0=>?_;refine code_openR 0 rfl fun gl=>?_;refine jU 501004016 ?_;refine seq_ent (closeR n k l 0 1 rfl rfl rfl (cO rfl) cZ (Nat.le_refl _) (fun _ _=>cZ)) ?_;refine jU 1500000 ?_;refine jF4 1 810300550044415004444 13 (fun g204=>?_) fun g204=>?_
 rotate_left
 ·first
   |(refine jE (closeR n 5 l 0 2 rfl rfl rfl (cO rfl) cZ (Nat.le_refl _) (fun _ _=>cZ)) ?_;refine jE (pick_ent (H':=[rdO n l 5]) [0] (by decide) rfl) ?_;have hE:enterR tag l k=nextR tag l 5:=by unfold enterR;rw [if_pos (by simp_all [moreM,madeM])])
   |(refine jE (pick_ent (H':=[rdO n l k]) [0] (by decide) rfl) ?_;have hE:enterR tag l k=nextR tag l k:=by unfold enterR;rw [if_neg (by simp_all [moreM,madeM])])
  refine jU 116 ?_;refine jF2 9009009001 0 (nextR_ac n l _ tag hl hb) ?_
  refine jqe (jeal (n:=2) zr130 rfl fun p2=>?_)
  refine jF7 7511 2 ?_
  rw [← hE]
  have hel:0<(enterR tag l k).l.length∧(enterR tag l k).l.length≤1000000:=by rw [hE];exact hnl _
  refine jU 516 ?_;refine jF3 0 810 (fun h208=>?_) fun h208=>?_
  rotate_left
  ·first
    |(refine jE (closeR n (enterR tag l k).k ((enterR tag l k).l++[(enterR tag l k).body]) 0 2 rfl rfl rfl (cO (by simp)) cZ (by simp) (fun _ _=>cZ)) ?_;have hL:enterL tag l k=(enterR tag l k).l++[(enterR tag l k).body]:=by unfold enterL;rw [if_pos (by simpa using h208)])
    | have hL:enterL tag l k=(enterR tag l k).l:=by unfold enterL;rw [if_neg (by simpa using h208)]
   refine jU 70005116 ?_
   rw [hL]
   exact end_H (.inl rfl) rfl (res_1 rfl (arv_tmp rfl)) cZ
  refine jE (freeze 1 rfl) ?_;refine jE (thawP 5 (m:=2) rfl rfl (by decide)) ?_;refine jnm ?_;refine code_openR 0 rfl fun gl3=>?_;refine jcdZ (oT [0,2,4,6,8,10,12,15,17,18,20,23] .done) ?_;refine jU 6000000050000000100000009000000400000400000 ?_;refine jzq jrdr ?_
  refine jze (jebl 1 1 zr58 fun p3=>?_)
  refine jzm (jac 24 (rowC_lb) (l2:=[(enterR tag l k).body]) fun p4=>?_)
  refine jU 100000009000000 ?_
  refine jzm (jmst 1 ?_)
  refine jU 8700000 ?_
  first
   |(refine jE (closeR n (enterR tag l k).k ((enterR tag l k).l++[(enterR tag l k).body]) 0 2 rfl rfl rfl (cO (by simp)) cZ (by simp) (fun _ _=>cZ)) ?_;have hL:enterL tag l k=(enterR tag l k).l++[(enterR tag l k).body]:=by unfold enterL;rw [if_pos (by simpa using h208)])
   | have hL:enterL tag l k=(enterR tag l k).l:=by unfold enterL;rw [if_neg (by simpa using h208)]
  refine jU 70005116 ?_
  rw [hL]
  exact end_H (.inl rfl) rfl (res_1 rfl (arv_tmp rfl)) cZ
 refine jF2 110000000023 0 (now_ac n l k hl) ?_;refine jF4 1 8103005500444 19 (fun g204_2=>?_) fun g204_2=>?_
 rotate_left
 ·first
   |(refine jE (closeR n 5 l 0 2 rfl rfl rfl (cO rfl) cZ (Nat.le_refl _) (fun _ _=>cZ)) ?_;refine jE (pick_ent (H':=[rdO n l 5]) [0] (by decide) rfl) ?_;have hE:enterR tag l k=nextR tag l 5:=by unfold enterR;rw [if_pos (by simp_all [moreM,madeM])])
   |(refine jE (pick_ent (H':=[rdO n l k]) [0] (by decide) rfl) ?_;have hE:enterR tag l k=nextR tag l k:=by unfold enterR;rw [if_neg (by simp_all [moreM,madeM])])
  refine jU 116 ?_;refine jF2 9009009001 0 (nextR_ac n l _ tag hl hb) ?_
  refine jqe (jeal (n:=2) zr130 rfl fun p3=>?_)
  refine jF7 7511 2 ?_
  rw [← hE]
  have hel:0<(enterR tag l k).l.length∧(enterR tag l k).l.length≤1000000:=by rw [hE];exact hnl _
  refine jU 516 ?_;refine jF3 0 810 (fun h208=>?_) fun h208=>?_
  rotate_left
  ·first
    |(refine jE (closeR n (enterR tag l k).k ((enterR tag l k).l++[(enterR tag l k).body]) 0 2 rfl rfl rfl (cO (by simp)) cZ (by simp) (fun _ _=>cZ)) ?_;have hL:enterL tag l k=(enterR tag l k).l++[(enterR tag l k).body]:=by unfold enterL;rw [if_pos (by simpa using h208)])
    | have hL:enterL tag l k=(enterR tag l k).l:=by unfold enterL;rw [if_neg (by simpa using h208)]
   refine jU 70005116 ?_
   rw [hL]
   exact end_H (.inl rfl) rfl (res_1 rfl (arv_tmp rfl)) cZ
  refine jE (freeze 1 rfl) ?_;refine jE (thawP 5 (m:=2) rfl rfl (by decide)) ?_;refine jnm ?_;refine code_openR 0 rfl fun gl3=>?_;refine jcdZ (oT [0,2,4,6,8,10,12,15,17,18,20,23] .done) ?_;refine jU 6000000050000000100000009000000400000400000 ?_;refine jzq jrdr ?_
  refine jze (jebl 1 1 zr58 fun p4=>?_)
  refine jzm (jac 24 (rowC_lb) (l2:=[(enterR tag l k).body]) fun p5=>?_)
  refine jU 100000009000000 ?_
  refine jzm (jmst 1 ?_)
  refine jU 8700000 ?_
  first
   |(refine jE (closeR n (enterR tag l k).k ((enterR tag l k).l++[(enterR tag l k).body]) 0 2 rfl rfl rfl (cO (by simp)) cZ (by simp) (fun _ _=>cZ)) ?_;have hL:enterL tag l k=(enterR tag l k).l++[(enterR tag l k).body]:=by unfold enterL;rw [if_pos (by simpa using h208)])
   | have hL:enterL tag l k=(enterR tag l k).l:=by unfold enterL;rw [if_neg (by simpa using h208)]
  refine jU 70005116 ?_
  rw [hL]
  exact end_H (.inl rfl) rfl (res_1 rfl (arv_tmp rfl)) cZ
 refine jF1 510000000030 (made_ac _) ?_;refine jF3 0 810 (fun h204=>?_) fun h204=>?_
 rotate_left
 ·first
   |(refine jE (closeR n 5 l 0 2 rfl rfl rfl (cO rfl) cZ (Nat.le_refl _) (fun _ _=>cZ)) ?_;refine jE (pick_ent (H':=[rdO n l 5]) [0] (by decide) rfl) ?_;have hE:enterR tag l k=nextR tag l 5:=by unfold enterR;rw [if_pos (by simp_all [moreM,madeM])])
   |(refine jE (pick_ent (H':=[rdO n l k]) [0] (by decide) rfl) ?_;have hE:enterR tag l k=nextR tag l k:=by unfold enterR;rw [if_neg (by simp_all [moreM,madeM])])
  refine jU 116 ?_;refine jF2 9009009001 0 (nextR_ac n l _ tag hl hb) ?_
  refine jqe (jeal (n:=2) zr130 rfl fun p3=>?_)
  refine jF7 7511 2 ?_
  rw [← hE]
  have hel:0<(enterR tag l k).l.length∧(enterR tag l k).l.length≤1000000:=by rw [hE];exact hnl _
  refine jU 516 ?_;refine jF3 0 810 (fun h208=>?_) fun h208=>?_
  rotate_left
  ·first
    |(refine jE (closeR n (enterR tag l k).k ((enterR tag l k).l++[(enterR tag l k).body]) 0 2 rfl rfl rfl (cO (by simp)) cZ (by simp) (fun _ _=>cZ)) ?_;have hL:enterL tag l k=(enterR tag l k).l++[(enterR tag l k).body]:=by unfold enterL;rw [if_pos (by simpa using h208)])
    | have hL:enterL tag l k=(enterR tag l k).l:=by unfold enterL;rw [if_neg (by simpa using h208)]
   refine jU 70005116 ?_
   rw [hL]
   exact end_H (.inl rfl) rfl (res_1 rfl (arv_tmp rfl)) cZ
  refine jE (freeze 1 rfl) ?_;refine jE (thawP 5 (m:=2) rfl rfl (by decide)) ?_;refine jnm ?_;refine code_openR 0 rfl fun gl3=>?_;refine jcdZ (oT [0,2,4,6,8,10,12,15,17,18,20,23] .done) ?_;refine jU 6000000050000000100000009000000400000400000 ?_;refine jzq jrdr ?_
  refine jze (jebl 1 1 zr58 fun p4=>?_)
  refine jzm (jac 24 (rowC_lb) (l2:=[(enterR tag l k).body]) fun p5=>?_)
  refine jU 100000009000000 ?_
  refine jzm (jmst 1 ?_)
  refine jU 8700000 ?_
  first
   |(refine jE (closeR n (enterR tag l k).k ((enterR tag l k).l++[(enterR tag l k).body]) 0 2 rfl rfl rfl (cO (by simp)) cZ (by simp) (fun _ _=>cZ)) ?_;have hL:enterL tag l k=(enterR tag l k).l++[(enterR tag l k).body]:=by unfold enterL;rw [if_pos (by simpa using h208)])
   | have hL:enterL tag l k=(enterR tag l k).l:=by unfold enterL;rw [if_neg (by simpa using h208)]
  refine jU 70005116 ?_
  rw [hL]
  exact end_H (.inl rfl) rfl (res_1 rfl (arv_tmp rfl)) cZ
 refine code_openR 0 rfl fun gl2=>?_;refine jU 1200 ?_;refine jq (jrde 4) ?_;refine jU 10040 ?_
 refine jqm (jmstF 1 (fl [.os 2 gl2 0 l.length 1,.err 5]) ?_ ?_)
 ·exact jal
 refine jU 85 ?_
 first
  |(refine jE (closeR n 5 l 0 2 rfl rfl rfl (cO rfl) cZ (Nat.le_refl _) (fun _ _=>cZ)) ?_;refine jE (pick_ent (H':=[rdO n l 5]) [0] (by decide) rfl) ?_;have hE:enterR tag l k=nextR tag l 5:=by unfold enterR;rw [if_pos (by simp_all [moreM,madeM])])
  |(refine jE (pick_ent (H':=[rdO n l k]) [0] (by decide) rfl) ?_;have hE:enterR tag l k=nextR tag l k:=by unfold enterR;rw [if_neg (by simp_all [moreM,madeM])])
 refine jU 116 ?_;refine jF2 9009009001 0 (nextR_ac n l _ tag hl hb) ?_
 refine jqe (jeal (n:=2) zr130 rfl fun p3=>?_)
 refine jF7 7511 2 ?_
 rw [← hE]
 have hel:0<(enterR tag l k).l.length∧(enterR tag l k).l.length≤1000000:=by rw [hE];exact hnl _
 refine jU 516 ?_;refine jF3 0 810 (fun h208=>?_) fun h208=>?_
 rotate_left
 ·first
   |(refine jE (closeR n (enterR tag l k).k ((enterR tag l k).l++[(enterR tag l k).body]) 0 2 rfl rfl rfl (cO (by simp)) cZ (by simp) (fun _ _=>cZ)) ?_;have hL:enterL tag l k=(enterR tag l k).l++[(enterR tag l k).body]:=by unfold enterL;rw [if_pos (by simpa using h208)])
   | have hL:enterL tag l k=(enterR tag l k).l:=by unfold enterL;rw [if_neg (by simpa using h208)]
  refine jU 70005116 ?_
  rw [hL]
  exact end_H (.inl rfl) rfl (res_1 rfl (arv_tmp rfl)) cZ
 refine jE (freeze 1 rfl) ?_;refine jE (thawP 5 (m:=2) rfl rfl (by decide)) ?_;refine jnm ?_;refine code_openR 0 rfl fun gl3=>?_;refine jcdZ (oT [0,2,4,6,8,10,12,15,17,18,20,23] .done) ?_;refine jU 6000000050000000100000009000000400000400000 ?_;refine jzq jrdr ?_
 refine jze (jebl 1 1 zr58 fun p4=>?_)
 refine jzm (jac 24 (rowC_lb) (l2:=[(enterR tag l k).body]) fun p5=>?_)
 refine jU 100000009000000 ?_
 refine jzm (jmst 1 ?_)
 refine jU 8700000 ?_
 first
  |(refine jE (closeR n (enterR tag l k).k ((enterR tag l k).l++[(enterR tag l k).body]) 0 2 rfl rfl rfl (cO (by simp)) cZ (by simp) (fun _ _=>cZ)) ?_;have hL:enterL tag l k=(enterR tag l k).l++[(enterR tag l k).body]:=by unfold enterL;rw [if_pos (by simpa using h208)])
  | have hL:enterL tag l k=(enterR tag l k).l:=by unfold enterL;rw [if_neg (by simpa using h208)]
 refine jU 70005116 ?_
 rw [hL]
 exact end_H (.inl rfl) rfl (res_1 rfl (arv_tmp rfl)) cZ
def leaveK (l:List (List UInt8)) (k:Nat):Nat:=if k≠0 then k else if l.length=1 then 24 else if 0<(nowL l).length then 4 else 0
def leaveL (l:List (List UInt8)) (k:Nat):List (List UInt8):=if leaveK l k=0 then l.take (l.length-1) else l
theorem lbF_take {l:List (List UInt8)} {m j:Nat} (h:j<m):CEnt (lbF l j) (lbF (l.take m) j):=by
 refine CEnt.of_eq ?_
 simp [lbF,List.getD_eq_getElem?_getD,h]
theorem leave_ac (n:Nat) (l:List (List UInt8)) (k:Nat) (hl:0<l.length∧l.length≤1000000):AC gs Tryz.prog 49 [rdO n l k] [.op 0 (some n) 0]
  (fun r H'=>r=.c (.tuple #[])∧H'=[rdO n (leaveL l k) (leaveK l k)]):=by
 have stay:∀ {e},leaveK l k=e→e≠0→leaveL l k=l:=fun h h0=>by unfold leaveL;rw [h,if_neg h0]
 refine ac_oF 45 Tryz.func49 fun al w0 F0 St0=>?_;refine code_openR 0 rfl fun gl=>?_;refine jU 5150000050100401620519350904016 ?_;refine jF3 40010 51216 (fun h218=>?_) fun h218=>?_
 ·have e:leaveK l k=k:=by unfold leaveK;rw [if_pos (by omega)]
  rw [stay e (by omega),e]
  exact end_pack (gd:=fun z:Nat×Option Nat=>z.1) (E:=rdE l k) (.inr rfl) _ (n,gl) [0,1] (by decide) rfl (res_0 rfl) ⟨rfl,rfl⟩
 refine jF3 1200 150904016 (fun h219=>?_) fun h219=>?_
 ·refine jq (jrde 23) ?_;refine jU 10040 ?_
  refine jqm (jmstF 1 (fl [.os 1 gl 0 l.length 1,.err 24]) ?_ ?_)
  ·exact jal
  refine jU 4005 ?_
  have e:leaveK l k=24:=by unfold leaveK;rw [if_neg (by omega),if_pos (by omega)]
  rw [stay e (by omega),e]
  exact end_pack (gd:=fun z:Nat×Option Nat=>z.1) (E:=rdE l 24) (.inr rfl) _ (n,gl) [0,1] (by decide) rfl (res_0 rfl) ⟨rfl,rfl⟩
 refine jq (jri (i:=(l.length-1)) (hz:=by omega)) ?_;refine jU 512350 ?_;refine jF3 1200 150904011200 (fun h221=>?_) fun h221=>?_
 ·refine jq (jrde 3) ?_;refine jU 10040 ?_
  refine jqm (jmstF 1 (fl [.os 1 gl 0 l.length 1,.err 4]) ?_ ?_)
  ·exact jal
  refine jU 4005 ?_
  have e:leaveK l k=4:=by unfold leaveK;rw [if_neg (by omega),if_neg (by omega),if_pos (by unfold nowL;omega)]
  rw [stay e (by omega),e]
  exact end_pack (gd:=fun z:Nat×Option Nat=>z.1) (E:=rdE l 4) (.inr rfl) _ (n,gl) [0,1] (by decide) rfl (res_0 rfl) ⟨rfl,rfl⟩
 refine jq jrso ?_;refine jU 9040 ?_
 have hk0:k=0:=by omega
 refine seq_ent (weakH 1 (l.length-1) (lbF (l.take (l.length-1))) rfl (by omega) (fun j hj=>lbF_take hj)) ?_
 refine jqm (jmstF 1 (fl [.os 1 gl 0 (l.length-1) 1,.err 0]) ?_ ?_)
 ·exact (fun j hj=>by rcases j with _|_|j <;> first|exact cZ|exact cO (by omega)|exact CEnt.err hk0)
 refine jU 4005 ?_
 have e:leaveK l k=0:=by unfold leaveK;rw [if_neg (by omega),if_neg (by omega),if_neg (by unfold nowL;omega)]
 have e2:leaveL l k=l.take (l.length-1):=by unfold leaveL;rw [if_pos e]
 have e3:(l.take (l.length-1)).length=l.length-1:=by rw [List.length_take];omega
 rw [e2,e]
 exact end_pack (gd:=fun z:Nat×Option Nat=>z.1) (E:=rdE (l.take (l.length-1)) 0) (.inr rfl) _ (n,gl) [0,1] (by decide) (by unfold rdE;rw [e3];rfl) (res_0 rfl) ⟨rfl,rfl⟩
def endK (l:List (List UInt8)) (k:Nat):Nat:=if k≠0 then k else if 1<l.length then 24 else if 0<(l.getD 0 []).length then 4 else 0
theorem end08_ac (n:Nat) (l:List (List UInt8)) (k:Nat) (hl:0<l.length∧l.length≤1000000):AC gs Tryz.prog 50 [rdO n l k] [.op 0 (some n) 0]
  (fun r H'=>r=.err (endK l k)∧H'=[rdO n l k]):=by
 refine jF5 207516 31 Tryz.func50 fun al w0 F0 St0=>?_;refine code_openR 0 rfl fun gl=>?_;refine jU 51500000501004016 ?_;refine jF3 30005000700051501004016 512350904016 (fun h292=>?_) fun h292=>?_
 ·exact end_packV (gd:=fun z:Nat×Option Nat=>z.1) (E:=rdE l k) (.inl rfl) (n,gl) [0,1] (by decide) rfl (res_1 rfl (arv_tmp rfl)) (CEnt.err (by unfold endK;rw [if_pos (by omega)]))
 refine jF3 0 512350200000050904016 (fun h294=>?_) fun h294=>?_
 ·refine jcr ?_;refine jq (jrde 23) ?_;refine jU 30005000700051 ?_
  exact end_packV (gd:=fun z:Nat×Option Nat=>z.1) (E:=rdE l k) (.inl rfl) (n,gl) [0,1] (by decide) rfl (res_1 rfl (arv_tmp rfl)) (CEnt.err (by unfold endK;rw [if_neg (by omega),if_pos (by omega)]))
 refine jF3 0 7000516840010 (fun h296=>?_) fun h296=>?_
 ·refine jcr ?_;refine jq (jrde 3) ?_;refine jU 30005000700051 ?_
  exact end_packV (gd:=fun z:Nat×Option Nat=>z.1) (E:=rdE l k) (.inl rfl) (n,gl) [0,1] (by decide) rfl (res_1 rfl (arv_tmp rfl)) (CEnt.err (by unfold endK;rw [if_neg (by omega),if_neg (by omega),if_pos (by omega)]))
 have e:endK l k=0:=by unfold endK;rw [if_neg (by omega),if_neg (by omega),if_neg (by omega)]
 rw [e]
 exact end_packV (gd:=fun z:Nat×Option Nat=>z.1) (E:=rdE l k) (.inl rfl) (n,gl) [0,1] (by decide) rfl (res_1 rfl (arv_tmp rfl)) CEnt.nil
end
section
variable {gs:List Nat} [Ok9 gs]

theorem nextR_is {tag:Int} {l:List (List UInt8)} {k:Nat} (h:(nextR tag l k).is=true):(nextR tag l k).k=0∧(nextR tag l k).body.length≤65530:=by
 have hb:=nextM_bd (nowL l)
 unfold nextR at h ⊢
 split
 ·rename_i h1;rw [if_pos h1] at h;cases h
 ·rename_i h1;rw [if_neg h1] at h
  split
  ·rename_i h2;rw [if_pos h2] at h;cases h
  ·rename_i h2;rw [if_neg h2] at h
   split
   ·rename_i h3;rw [if_pos h3] at h;cases h
   ·exact ⟨rfl,hb.2.2.1⟩
def valK (tag:Int) (l:List (List UInt8)) (k:Nat) (e:List UInt8→Nat):Nat:=if (nextR tag l k).is=true then e (nextR tag l k).body else (nextR tag l k).k
theorem nextR_len {tag:Int} {l:List (List UInt8)} {k:Nat}:(nextR tag l k).l.length=l.length:=by
 unfold nextR
 split
 ·rfl
 ·split
  ·rfl
  ·split
   ·rfl
   ·simp
theorem valueI_ac {gs:List Nat} [Ok9 gs] {f:FuncId} {m:Nat} {fv:Nat→CV} (hc:calleeB Tryz.prog f=true) (n:Nat) (l:List (List UInt8)) (k:Nat) (tag:Int) (get:List UInt8→Int×Nat) (hl:0<l.length∧l.length≤1000000) (hb:(nowL l).length≤10000000) (hp:∀ b:List UInt8,b.length≤65530→ACp gs Tryz.prog f (bsC b::(List.range m).map fv) (.tup 2 (fl [.c (.int .i64 (get b).1),.err (get b).2]))) :
  AC gs Tryz.prog 80 [rdO n l k] [.op 0 (some n) 0,.c (.int .i64 tag),.fn f m fv]
   (fun r H'=>r=.c (.int .i64 (if (nextR tag l k).is=true∧(get (nextR tag l k).body).2=0 then (get (nextR tag l k).body).1 else 0))∧H'=[rdO n (nextR tag l k).l (valK tag l k fun b=>(get b).2)]):=by
 have hln:(nextR tag l k).l.length=l.length:=nextR_len
 refine jF5 116516516 38 Tryz.func80 fun al w0 F0 St0=>?_;refine jF2 9009009001 0 (nextR_ac n l k tag hl hb) ?_
 refine jqe (jeal (n:=2) zr130 rfl fun p2=>?_)
 refine jF7 530167511 2 ?_;refine jF3 300070005116 810 (fun h232=>?_) fun h232=>?_
 ·rw [if_neg (by simp_all)]
  have e:(valK tag l k fun b=>(get b).2)=(nextR tag l k).k:=by unfold valK;rw [if_neg (by simpa using h232)]
  rw [e]
  exact end_H (.inl rfl) rfl (res_1 rfl (arv_tmp rfl)) cZ
 have his:=nextR_is (by simpa using h232)
 refine jU 5010016 ?_
 refine jqe (e_callV rfl rfl (by assumption) (hp (nextR tag l k).body his.2) (entL_fn cZ _) rfl rfl ?_)
 rintro _ _ ⟨rfl,rfl⟩
 refine jU 55000001675119009001 ?_;refine jF3 0 70005116810 (fun h236=>?_) fun h236=>?_
 rotate_left
 ·have h0:(get (nextR tag l k).body).2=0:=by omega
  rw [if_pos ⟨by simpa using h232,h0⟩]
  have e:(valK tag l k fun b=>(get b).2)=(nextR tag l k).k:=by unfold valK;rw [if_pos (by simpa using h232),his.1];exact h0
  rw [e]
  exact end_H (.inl rfl) rfl (res_1 rfl (arv_tmp rfl)) cZ
 refine code_openR 0 rfl fun gl=>?_;refine jU 10040116 ?_;refine jF7 5 1 ?_;refine jE (closeR n (get (nextR tag l k).body).2 (nextR tag l k).l 0 2 rfl rfl rfl (cO rfl) cZ (Nat.le_refl _) (fun _ _=>cZ)) ?_;refine jU 300070005116 ?_
 rw [if_neg (by omega)]
 have e:(valK tag l k fun b=>(get b).2)=(get (nextR tag l k).body).2:=by unfold valK;rw [if_pos (by simpa using h232)]
 rw [e]
 exact end_H (.inl rfl) rfl (res_1 rfl (arv_tmp rfl)) cZ
theorem CEnt.fn2' {k:FuncId} {f g:Nat→CV} (h0:CEnt (f 0) (g 0)) (h1:CEnt (f 1) (g 1)):CEnt (.fn k 2 f) (.fn k 2 g):=fun al St w v ⟨cs,k1,k2,k3⟩=>⟨cs,k1,k2,fun i hi=>by
 rcases i with _|_|i
 ·exact h0 _ _ _ _ (k3 0 (by omega))
 ·exact h1 _ _ _ _ (k3 1 (by omega))
 ·omega⟩
theorem int_box {z:Int}:∀ j,j<1→CEnt (fl [CV.c (.int .i64 z)] (0+j)) (CV.c (.int .i64 z)):=fun j hj=>by
 obtain rfl:j=0:=by omega
 exact cZ
def twoF (a b:Int):Nat→CV:=fl [.rp 1 fun _=>.c (.int .i64 a),.rp 1 fun _=>.c (.int .i64 b)]
theorem intG_ac (least most:Int) (b:List UInt8):ACp gs Tryz.prog 81 (bsC b::(List.range 2).map (twoF least most)) (.tup 2 (fl [.c (.int .i64 (rangeM b least most).1),.err (rangeM b least most).2])):=by
 refine jF5 6060165116 12 Tryz.func81 fun al w0 F0 St0=>?_;refine jF1 511900900 (wrange_ac b least most) ?_
 refine jR jrt
theorem int08_ac (n:Nat) (l:List (List UInt8)) (k:Nat) (least most:Int) (hl:0<l.length∧l.length≤1000000) (hb:(nowL l).length≤10000000) :
  AC gs Tryz.prog 45 [rdO n l k] [.op 0 (some n) 0,.c (.int .i64 least),.c (.int .i64 most)]
   (fun r H'=>r=.c (.int .i64 (if (nextR 2 l k).is=true∧(rangeM (nextR 2 l k).body least most).2=0 then (rangeM (nextR 2 l k).body least most).1 else 0))∧H'=[rdO n (nextR 2 l k).l (valK 2 l k fun b=>(rangeM b least most).2)]):=by
 refine ac_oF 10 Tryz.func45 fun al w0 F0 St0=>?_;refine jcr ?_
 refine jqe (jebx 1 fun p1=>?_)
 refine jqe (jebx 1 fun p2=>?_)
 refine jU 51 ?_;refine jE (freeze 1 rfl) ?_;refine jE (freeze 2 rfl) ?_;refine jE (thawP 4 (m:=1) rfl rfl (by decide)) ?_;refine jE (thawP 5 (m:=1) rfl rfl (by decide)) ?_;refine jU 16 ?_;refine jq jrmf ?_
 refine jqm (jmcE 0 (valueI_ac (fv:=twoF least most) (by kernel_rfl) n l k 2 (fun b=>rangeM b least most) hl hb (fun b _=>intG_ac least most b)) ?_ (ho:=rfl) (he:=(.cons (se rfl cP) (.cons (se rfl cZ) (.cons (se rfl (CEnt.fn2' (CEnt.rp int_box) (CEnt.rp int_box))) .nil)))))
 refine jU 700051 ?_
 exact jnh
end
section
variable {gs:List Nat} [Ok9 gs]

theorem read08_ac (b:List UInt8) (hb:b.length≤10000000):AC gs Tryz.prog 43 [] [bsC b] (fun r H'=>∃ n,r=.op 0 (some n) 0∧H'=[rdO n [b] (depthM b).2]):=by
 refine jF5 16516 10 Tryz.func43 fun al w0 F0 St0=>?_
 refine jqe (jecP (clone8_ac b (by omega)) ?_)
 refine jF6 1 1 1 zr58 fun p1=>?_
 refine jqe (jecP (check_ac b hb) ?_)
 refine jq (rd_build (n:=2) rfl zr127 pl127 rfl rfl) ?_
 refine jqe (jebx 2 fun p2=>?_)
 refine jU 51 ?_;refine code_knowG (know_op 2 rfl) fun hn=>?_
 obtain ⟨n,rfl⟩:=hn
 refine jE (closeR n (depthM b).2 [b] 1 0 rfl rfl rfl (cO rfl) cZ (Nat.le_refl _) (fun a ha=>by obtain rfl:a=0:=(by simpa using ha);exact cZ)) ?_;refine jU 7000 ?_
 exact end_ownV (.inl rfl) [1] (by decide) rfl (res_1 rfl (arv_tmp rfl)) (cP (j:=0)) ⟨n,rfl,rfl⟩
end
section
variable {gs:List Nat} [Ok9 gs]

theorem valueL_ac {gs:List Nat} [Ok9 gs] {f:FuncId} {m:Nat} {fv:Nat→CV} (hc:calleeB Tryz.prog f=true) (n:Nat) (l:List (List UInt8)) (k:Nat) (tag:Int) (get:List UInt8→(List UInt8)×Nat) (hl:0<l.length∧l.length≤1000000) (hb:(nowL l).length≤10000000) (hp:∀ b:List UInt8,b.length≤65530→ACp gs Tryz.prog f (bsC b::(List.range m).map fv) (.tup 2 (fl [bsC (get b).1,.err (get b).2]))) :
  AC gs Tryz.prog 119 [rdO n l k] [.op 0 (some n) 0,.c (.int .i64 tag),.fn f m fv]
   (fun r H'=>r=bsC (if (nextR tag l k).is=true∧(get (nextR tag l k).body).2=0 then (get (nextR tag l k).body).1 else [])∧H'=[rdO n (nextR tag l k).l (valK tag l k fun b=>(get b).2)]):=by
 have hln:(nextR tag l k).l.length=l.length:=nextR_len
 refine jF5 116516516 38 Tryz.func119 fun al w0 F0 St0=>?_;refine jF2 9009009001 0 (nextR_ac n l k tag hl hb) ?_
 refine jqe (jeal (n:=2) zr130 rfl fun p2=>?_)
 refine jF7 530167511 2 ?_;refine jF3 300070005116 810 (fun h232=>?_) fun h232=>?_
 ·rw [if_neg (by simp_all)]
  have e:(valK tag l k fun b=>(get b).2)=(nextR tag l k).k:=by unfold valK;rw [if_neg (by simpa using h232)]
  rw [e]
  exact end_H (.inl rfl) rfl (res_1 rfl (arv_tmp rfl)) (by exact cN)
 have his:=nextR_is (by simpa using h232)
 refine jU 5010016 ?_
 refine jqe (e_callV rfl rfl (by assumption) (hp (nextR tag l k).body his.2) (entL_fn cZ _) rfl rfl ?_)
 rintro _ _ ⟨rfl,rfl⟩
 refine jU 55000001675119009001 ?_;refine jF3 0 70005116810 (fun h236=>?_) fun h236=>?_
 rotate_left
 ·have h0:(get (nextR tag l k).body).2=0:=by omega
  rw [if_pos ⟨by simpa using h232,h0⟩]
  have e:(valK tag l k fun b=>(get b).2)=(nextR tag l k).k:=by unfold valK;rw [if_pos (by simpa using h232),his.1];exact h0
  rw [e]
  exact end_H (.inl rfl) rfl (res_1 rfl (arv_tmp rfl)) (by exact cZ)
 refine code_openR 0 rfl fun gl=>?_;refine jU 10040116 ?_;refine jF7 5 1 ?_;refine jE (closeR n (get (nextR tag l k).body).2 (nextR tag l k).l 0 2 rfl rfl rfl (cO rfl) cZ (Nat.le_refl _) (fun _ _=>cZ)) ?_;refine jU 300070005116 ?_
 rw [if_neg (by omega)]
 have e:(valK tag l k fun b=>(get b).2)=(get (nextR tag l k).body).2:=by unfold valK;rw [if_pos (by simpa using h232)]
 rw [e]
 exact end_H (.inl rfl) rfl (res_1 rfl (arv_tmp rfl)) (by exact cN)
theorem valueS_ac {gs:List Nat} [Ok9 gs] {f:FuncId} {m:Nat} {fv:Nat→CV} (hc:calleeB Tryz.prog f=true) (n:Nat) (l:List (List UInt8)) (k:Nat) (tag:Int) (get:List UInt8→(List UInt8)×Nat) (hl:0<l.length∧l.length≤1000000) (hb:(nowL l).length≤10000000) (hp:∀ b:List UInt8,b.length≤65530→ACp gs Tryz.prog f (bsC b::(List.range m).map fv) (.tup 2 (fl [strC (get b).1,.err (get b).2]))) :
  AC gs Tryz.prog 83 [rdO n l k] [.op 0 (some n) 0,.c (.int .i64 tag),.fn f m fv]
   (fun r H'=>r=strC (if (nextR tag l k).is=true∧(get (nextR tag l k).body).2=0 then (get (nextR tag l k).body).1 else [])∧H'=[rdO n (nextR tag l k).l (valK tag l k fun b=>(get b).2)]):=by
 have hln:(nextR tag l k).l.length=l.length:=nextR_len
 refine jF5 116516516 38 Tryz.func83 fun al w0 F0 St0=>?_;refine jF2 9009009001 0 (nextR_ac n l k tag hl hb) ?_
 refine jqe (jeal (n:=2) zr130 rfl fun p2=>?_)
 refine jF7 530167511 2 ?_;refine jF3 300070005116 810 (fun h232=>?_) fun h232=>?_
 ·rw [if_neg (by simp_all)]
  have e:(valK tag l k fun b=>(get b).2)=(nextR tag l k).k:=by unfold valK;rw [if_neg (by simpa using h232)]
  rw [e]
  exact end_H (.inl rfl) rfl (res_1 rfl (arv_tmp rfl)) cZ
 have his:=nextR_is (by simpa using h232)
 refine jU 5010016 ?_
 refine jqe (e_callV rfl rfl (by assumption) (hp (nextR tag l k).body his.2) (entL_fn cZ _) rfl rfl ?_)
 rintro _ _ ⟨rfl,rfl⟩
 refine jU 55000001675119009001 ?_;refine jF3 0 70005116810 (fun h236=>?_) fun h236=>?_
 rotate_left
 ·have h0:(get (nextR tag l k).body).2=0:=by omega
  rw [if_pos ⟨by simpa using h232,h0⟩]
  have e:(valK tag l k fun b=>(get b).2)=(nextR tag l k).k:=by unfold valK;rw [if_pos (by simpa using h232),his.1];exact h0
  rw [e]
  exact end_H (.inl rfl) rfl (res_1 rfl (arv_tmp rfl)) cZ
 refine code_openR 0 rfl fun gl=>?_;refine jU 10040116 ?_;refine jF7 5 1 ?_;refine jE (closeR n (get (nextR tag l k).body).2 (nextR tag l k).l 0 2 rfl rfl rfl (cO rfl) cZ (Nat.le_refl _) (fun _ _=>cZ)) ?_;refine jU 300070005116 ?_
 rw [if_neg (by omega)]
 have e:(valK tag l k fun b=>(get b).2)=(get (nextR tag l k).body).2:=by unfold valK;rw [if_pos (by simpa using h232)]
 rw [e]
 exact end_H (.inl rfl) rfl (res_1 rfl (arv_tmp rfl)) cZ
end
section
def ssF (ls:List (List UInt8)) (j:Nat):CV:=strC (ls.getD j [])
def ssC (ls:List (List UInt8)):CV:=.rs 1 ls.length fun i _=>strC (ls.getD i [])
end
section

end
section
variable {gs:List Nat} [Ok2 gs]

def inR (n:Int):Bool:=decide (0≤n) && decide (n≤2147483647)
end
section
variable {gs:List Nat} [Ok9 gs]

def runsF (f:FuncId) (g:Option Nat):CV:=.fn f 1 (fl [.op 0 g 0])
end
section
variable {gs:List Nat} [Ok9 gs]

section
variable {b:List UInt8} {k:Nat} {X:List Int}
end
end
section
variable {gs:List Nat} [Ok9 gs]
open Go.RowKit Cal
set_option linter.unusedVariables false

theorem before_ac {gs:List Nat} (y:Int) (h1:1970≤y) (h2:y≤9999):ACp gs Tryz.prog 179 [.c (.int .i64 y)] (.c (.int .i64 (bf y))):=by
 refine jF5 205167516516 17 Tryz.func179 fun al w0 F0 St0=>?_
 refine jlp (α:=Nat) [3,15] (fun i=>[(3,.c (.int .i64 (bf (1970+i)))),(4,.c (.int .i64 (1970+i)))]) (fun _=>[]) (fun i=>1970+(i:Int)≤y) (fun i=>(y-1970-i).toNat) 0 (h0:=?_) (he:=.cons (cI bf_1970.symm) (.cons cZ .nil)) (hr:=?_)
 ·show 1970+((0:Nat):Int)≤y;omega
 rintro i (hi:1970+(i:Int)≤y)
 have hb:=bf_bd (1970+i) (by omega) (by omega)
 have hs:=bf_succ (1970+i)
 refine jU 521167 ?_;refine jF3 1651916207810 80007000511684000200020006000 (fun h33=>?_) fun h33=>?_
 rotate_left
 ·have e:y=1970+i:=by omega
  rw [e]
  exact cZ
 refine jF1 5 (rleap_ac _) ?_;refine jF3 8519120084005191200 85191200840010 (fun h35=>?_) fun h35=>?_
 rotate_left
 ·refine jlend (i+1) (h5:=?_)
  ·refine .cons (cI ?_) (.cons (cI (by omega)) .nil)
   show _=bf (1970+((i+1:Nat):Int))
   rw [show (1970:Int)+((i+1:Nat):Int)=1970+i+1 by omega,hs]
   simp only [*,Bool.false_eq_true,if_false]
   all_goals omega
 refine jlend (i+1) (h5:=?_)
 ·refine .cons (cI ?_) (.cons (cI (by omega)) .nil)
  show _=bf (1970+((i+1:Nat):Int))
  rw [show (1970:Int)+((i+1:Nat):Int)=1970+i+1 by omega,hs]
  simp only [*,if_true]
  all_goals omega
theorem rright6_ac {g:List Nat} (x:D6):ACp g Tryz.prog 159 [dateC x] (.c (.bool (decide (RightP x)))):=by
 refine ac_oF 66 Tryz.func159 fun al w0 F0 St0=>?_;refine jcr ?_
 refine jqe (jebx 6 fun p1=>?_)
 refine jU 751 ?_;refine jcd (oT [0,2,4,6,8,10,12,14,16,18,20,22,24,26,28,30,32,34,36,38,40,42,44,46,48,50,52,54,56,58,61,62,64,66,68,70,72,74,76,78,80,82,84,86,88,90,92,94,96,98,100,102,104,106,108,110,112,114,116,118,120,122,124,126] .done) ?_;refine jU 7080010000900000 ?_;refine jysp 6 (fun g44=>?_) fun g44=>?_
 rotate_left
 ·refine jU 60060060060060060070300000600600600703000006006006007030000060060060070300000600600600 ?_;refine jys1 ?_;refine jU 8000700088070300000600600600703000006006006007030000060060060070300000600600600703000006006006007030000060060060070300000600 ?_;refine cB ?_
  have qd:=@days_pos x.y x.m x.d
  (simp [RightP, *];done)
 refine jU 70300000080010000900000 ?_;refine jysp 11 (fun g44_2=>?_) fun g44_2=>?_
 rotate_left
 ·refine jU 600600600600600600703000006006006007030000060060060070300000600600600 ?_;refine jys1 ?_;refine jU 8000700088070300000600600600703000006006006007030000060060060070300000600600600703000006006006007030000060060060070300000600 ?_;refine cB ?_
  have qd:=@days_pos x.y x.m x.d
  (simp [RightP, *];done)
 refine jU 703000000800100008000000 ?_;refine jysp 16 (fun g44_3=>?_) fun g44_3=>?_
 rotate_left
 ·refine jU 6006006006006006007030000060060060070300000600600600 ?_;refine jys1 ?_;refine jU 8000700088070300000600600600703000006006006007030000060060060070300000600600600703000006006006007030000060060060070300000600 ?_;refine cB ?_
  have qd:=@days_pos x.y x.m x.d
  (simp [RightP, *];omega)
 refine jU 703000000800100008000000 ?_;refine jysp 21 (fun g44_4=>?_) fun g44_4=>?_
 rotate_left
 ·refine jU 60060060060060060070300000600600600 ?_;refine jys1 ?_;refine jU 8000700088070300000600600600703000006006006007030000060060060070300000600600600703000006006006007030000060060060070300000600 ?_;refine cB ?_
  have qd:=@days_pos x.y x.m x.d
  (simp [RightP, *];omega)
 refine jyq (jrfa 2 1 false) ?_;refine jU 70300000080010000 ?_;refine jysp 26 (fun g44_5=>?_) fun g44_5=>?_
 rotate_left
 ·refine jU 600600600600600600 ?_;refine jys1 ?_;refine jU 8000700088070300000600600600703000006006006007030000060060060070300000600600600703000006006006007030000060060060070300000600 ?_;refine cB ?_
  have qd:=@days_pos x.y x.m x.d
  (simp [RightP, *];done)
 refine jyq (jrfa 2 1 false) ?_;refine jU 1000080000001000090000010000 ?_
 refine jye (jecP (rdays_ac _ _) ?_)
 refine jU 703000000800 ?_;refine jysp 36 (fun g44_6=>?_) fun g44_6=>?_
 rotate_left
 ·refine jU 80007000880703000006006006007030000060060060070300000600600600703000006006006007030000060060060070300000600600600 ?_;refine cB ?_
  have qd:=@days_pos x.y x.m x.d
  (simp [RightP, *];done)
 refine jyq (jrfa 3 1 false) ?_;refine jU 70300000080010000 ?_;refine jysp 41 (fun g44_7=>?_) fun g44_7=>?_
 rotate_left
 ·refine jU 800070008807030000060060060070300000600600600703000006006006007030000060060060070300000600600600 ?_;refine cB ?_
  have qd:=@days_pos x.y x.m x.d
  (simp [RightP, *];done)
 refine jyq (jrfa 3 1 false) ?_;refine jU 70300000080010000 ?_;refine jysp 46 (fun g44_8=>?_) fun g44_8=>?_
 rotate_left
 ·refine jU 8000700088070300000600600600703000006006006007030000060060060070300000600600600 ?_;refine cB ?_
  have qd:=@days_pos x.y x.m x.d
  (simp [RightP, *];omega)
 refine jyq (jrfa 4 1 false) ?_;refine jU 70300000080010000 ?_;refine jysp 51 (fun g44_9=>?_) fun g44_9=>?_
 rotate_left
 ·refine jU 80007000880703000006006006007030000060060060070300000600600600 ?_;refine cB ?_
  have qd:=@days_pos x.y x.m x.d
  (simp [RightP, *];done)
 refine jyq (jrfa 4 1 false) ?_;refine jU 70300000080010000 ?_;refine jysp 56 (fun g44_10=>?_) fun g44_10=>?_
 rotate_left
 ·refine jU 800070008807030000060060060070300000600600600 ?_;refine cB ?_
  have qd:=@days_pos x.y x.m x.d
  (simp [RightP, *];omega)
 refine jyq (jrfa 5 1 false) ?_;refine jU 70300000080010000 ?_;refine jysp 61 (fun g44_11=>?_) fun g44_11=>?_
 ·refine jyq (jrfa 5 1 false) ?_;refine jU 8000700088070300000080010000 ?_;refine cB ?_
  have qd:=@days_pos x.y x.m x.d
  (refine decide_eq_decide.2 ?_;unfold RightP;omega)
 refine jU 8000700088070300000600600600 ?_;refine cB ?_
 have qd:=@days_pos x.y x.m x.d
 (simp [RightP, *];done)
theorem rsecs_ac {g:List Nat} (x:D6) (hr:RightP x):ACp g Tryz.prog 160 [dateC x] (.c (.int .i64 (secM x))):=by
 obtain ⟨q1,q2,q3,q4,q5,q6,q7,q8,q9,q10⟩:=id hr
 have qm:=days_pos q3 q4
 have qd:=days_le x.y x.m
 have qb:=bf_bd x.y q1 (by omega)
 have qs:=sec_bd hr
 refine ac_oF 37 Tryz.func160 fun al w0 F0 St0=>?_;refine jcr ?_
 refine jqe (jebx 6 fun p1=>?_)
 refine jU 751 ?_;refine jcd (oT [0,2,6,8,5,10,12,14] .done) ?_;refine jU 10000900000 ?_;refine jyq (jrfa 2 1 false) ?_;refine jyo jrdo ?_
 refine jye (jecP (before_ac _ q1 q2) ?_)
 refine jU 205167880703000030000 ?_
 refine jlp (α:=Nat) [3,4,12,23] (fun i=>[(3,.c (.int .i64 (bf x.y+x.d-1+cum x.y (1+i)))),(4,.c (.int .i64 (1+i)))]) (fun _=>[(p1,.blk 6 (dF x))]) (fun i=>1+(i:Int)≤x.m) (fun i=>(x.m-1-i).toNat) 0 (h0:=?_) (he:=.cons (cI (by show _=bf x.y+x.d-1+cum x.y 1;rw [cum_one];omega)) (.cons cZ .nil)) (hr:=?_)
 ·show 1+((0:Nat):Int)≤x.m;omega
 rintro i (hi:1+(i:Int)≤x.m)
 have hb:=cum_bd x.y (1+i) (by omega) (by omega)
 have hs:=cum_succ x.y (1+i) (by omega) (by omega)
 have hdd:=days_le x.y (1+i)
 refine jU 5250100167 ?_;refine jF3 150901200207810 84000200020006000 (fun h50=>?_) fun h50=>?_
 ·refine jF1 851912008400519 (rdays_ac _ _) ?_
  refine jlend (i+1) (h5:=?_)
  ·refine .cons (cI ?_) (.cons (cI (by omega)) .nil)
   show _=bf x.y+x.d-1+cum x.y (1+((i+1:Nat):Int))
   rw [show (1:Int)+((i+1:Nat):Int)=1+i+1 by omega,hs]
   omega
 have e:1+(i:Int)=x.m:=by omega
 clear hs hdd
 refine jU 800070005195060000009950700000099505000000916 ?_;refine cI ?_
 unfold secM dn
 rw [e]
 omega
end
section
open Go.RowKit Cal
def dg (b:List UInt8) (i:Nat):Int:=((b.getD i 0).toNat:Int)-48
def isDg (b:List UInt8) (i:Nat):Prop:=48≤((b.getD i 0).toNat:Int)∧((b.getD i 0).toNat:Int)≤57
instance (b:List UInt8) (i:Nat):Decidable (isDg b i):=by unfold isDg;infer_instance
def two (b:List UInt8) (j:Nat):Int:=10 * dg b (2 * j)+dg b (2 * j+1)
def getD6 (b:List UInt8):D6:=⟨100 * two b 0+two b 1,two b 2,two b 3,two b 4,two b 5,two b 6⟩
def formP (b:List UInt8):Prop:=b.length=15∧((b.getD 14 0).toNat:Int)=90∧∀ i,i<14→isDg b i
instance (b:List UInt8):Decidable (formP b):=by unfold formP;infer_instance
def getE (b:List UInt8):Nat:=if formP b then (if RightP (getD6 b) then 0 else 1) else 4
def getV (b:List UInt8):Int:=if formP b∧RightP (getD6 b) then secM (getD6 b) else 0

theorem body_dg {x:D6} (h:RightP x):(∀ i,i<14→isDg (bodyL x) i)∧getD6 (bodyL x)=x:=by
 obtain ⟨q1,q2,q3,q4,q5,q6,q7,q8,q9,q10⟩:=id h
 have qm:=days_pos q3 q4
 have qd:=days_le x.y x.m
 have q:∀ n p:Int,0≤n→1≤p→((figc n p).toNat:Int)=48+n / p % 10:=fun n p hn hp=>figc_nat (Int.ediv_nonneg hn (by omega))
 have e:∀ i,i<14→∃ n p:Int,(bodyL x).getD i 0=figc n p∧0≤n∧1≤p:=by
  intro i hi
  rcases i with _|_|_|_|_|_|_|_|_|_|_|_|_|_|i
  ·exact ⟨x.y,1000,rfl,by omega,by omega⟩
  ·exact ⟨x.y,100,rfl,by omega,by omega⟩
  ·exact ⟨x.y,10,rfl,by omega,by omega⟩
  ·exact ⟨x.y,1,rfl,by omega,by omega⟩
  ·exact ⟨x.m,10,rfl,by omega,by omega⟩
  ·exact ⟨x.m,1,rfl,by omega,by omega⟩
  ·exact ⟨x.d,10,rfl,by omega,by omega⟩
  ·exact ⟨x.d,1,rfl,by omega,by omega⟩
  ·exact ⟨x.h,10,rfl,by omega,by omega⟩
  ·exact ⟨x.h,1,rfl,by omega,by omega⟩
  ·exact ⟨x.mi,10,rfl,by omega,by omega⟩
  ·exact ⟨x.mi,1,rfl,by omega,by omega⟩
  ·exact ⟨x.s,10,rfl,by omega,by omega⟩
  ·exact ⟨x.s,1,rfl,by omega,by omega⟩
  ·omega
 refine ⟨fun i hi=>?_,?_⟩
 ·obtain ⟨n,p,h1,h2,h3⟩:=e i hi
  unfold isDg
  rw [h1,q n p h2 h3]
  omega
 ·have dd:∀ (i:Nat) (n p:Int),(bodyL x).getD i 0=figc n p→0≤n→1≤p→dg (bodyL x) i=n / p % 10:=fun i n p h1 h2 h3=>by
   grind [dg]
  have t0:two (bodyL x) 0=10 * (x.y / 1000 % 10)+x.y / 100 % 10:=by unfold two;rw [dd (2 * 0) x.y 1000 rfl (by omega) (by omega),dd (2 * 0+1) x.y 100 rfl (by omega) (by omega)]
  have t1:two (bodyL x) 1=10 * (x.y / 10 % 10)+x.y / 1 % 10:=by unfold two;rw [dd (2 * 1) x.y 10 rfl (by omega) (by omega),dd (2 * 1+1) x.y 1 rfl (by omega) (by omega)]
  have t2:two (bodyL x) 2=x.m:=by unfold two;rw [dd (2 * 2) x.m 10 rfl (by omega) (by omega),dd (2 * 2+1) x.m 1 rfl (by omega) (by omega)];omega
  have t3:two (bodyL x) 3=x.d:=by unfold two;rw [dd (2 * 3) x.d 10 rfl (by omega) (by omega),dd (2 * 3+1) x.d 1 rfl (by omega) (by omega)];omega
  have t4:two (bodyL x) 4=x.h:=by unfold two;rw [dd (2 * 4) x.h 10 rfl (by omega) (by omega),dd (2 * 4+1) x.h 1 rfl (by omega) (by omega)];omega
  have t5:two (bodyL x) 5=x.mi:=by unfold two;rw [dd (2 * 5) x.mi 10 rfl (by omega) (by omega),dd (2 * 5+1) x.mi 1 rfl (by omega) (by omega)];omega
  have t6:two (bodyL x) 6=x.s:=by unfold two;rw [dd (2 * 6) x.s 10 rfl (by omega) (by omega),dd (2 * 6+1) x.s 1 rfl (by omega) (by omega)];omega
  unfold getD6
  rw [t0,t1,t2,t3,t4,t5,t6]
  have:100 * (10 * (x.y / 1000 % 10)+x.y / 100 % 10)+(10 * (x.y / 10 % 10)+x.y / 1 % 10)=x.y:=by omega
  rw [this]
theorem get_body {x:D6} (h:RightP x):getE (bodyL x)=0∧getV (bodyL x)=secM x:=by
 have hf:formP (bodyL x):=⟨rfl,by show (((90:UInt8).toNat:Nat):Int)=90;rfl,(body_dg h).1⟩
 grind [body_dg,getE,getV]

def texF (x:D6):List Int:=[x.y / 100,x.y % 100,x.m,x.d,x.h,x.mi,x.s]
def texL (x:D6) (i:Nat):List UInt8:=((texF x).take i).flatMap fun n=>[figc n 10,figc n 1]
theorem texL_all {x:D6} (h1:0≤x.y) (h2:x.y≤9999):texL x 7++[90]=bodyL x:=by
 have e1:figc (x.y / 100) 10=figc x.y 1000:=by unfold figc;congr 2;omega
 have e2:figc (x.y / 100) 1=figc x.y 100:=by unfold figc;congr 2;omega
 have e3:figc (x.y % 100) 10=figc x.y 10:=by unfold figc;congr 2;omega
 simp_all [figc,texL,texF,bodyL,figL]
theorem texL_succ {x:D6} {i:Nat} (h:i<(texF x).length):texL x (i+1)=texL x i++[figc ((texF x).getD i 0) 10,figc ((texF x).getD i 0) 1]:=by
 grind [List.take_succ_eq_append_getElem,texL]
theorem texL_len (x:D6) {i:Nat} (h:i≤7):(texL x i).length=2 * i:=by
 rcases i with _|_|_|_|_|_|_|_|i <;> simp [texL,texF] <;> omega
end
section
variable {gs:List Nat} [Ok9 gs]
open Go.RowKit Cal
set_option linter.unusedVariables false

theorem year_stop {N y:Int} (h0:0≤N) (h1:N≤2932896) (hy:1970≤y) (hb:bf y≤N):y≤9999:=by
 refine Decidable.byContradiction fun hn=>?_
 have:=bf_mono (a:=10000) (b:=y) (by omega)
 have e:bf 10000=2932897:=by decide
 omega
theorem rof6_ac {gs:List Nat} (t:Int) (h:inT t):ACp gs Tryz.prog 146 [.c (.int .i64 t)] (dateC (ofR6 t)):=by
 obtain ⟨r1,r2⟩:=id h
 obtain ⟨N,hN⟩:∃ N,N=t / 86400:=⟨_,rfl⟩
 have n0:0≤N:=by omega
 have n1:N≤2932896:=by omega
 refine ac_oF 52 Tryz.func146 fun al w0 F0 St0=>?_;refine jcr ?_
 refine jqe (jeal (n:=6) zr199 rfl fun p1=>?_)
 refine jU 10000001100000060000011000000600000165 ?_;refine jq (rd_build (n:=6) rfl zr199 pl199 rfl rfl) ?_
 refine jqe (jeal (n:=6) zr199 rfl fun p2=>?_)
 refine jF7 20751600000165 6 ?_
 refine jlp (α:=Int) [4,5,17,29] (fun y=>[(4,.c (.int .i64 (N-bf y)))]) (fun y=>[(p1,.blk 6 (dF D6.zero)),(p2,.blk 6 (dF ⟨y,1,0,t / 3600 % 24,t / 60 % 60,t % 60⟩))]) (fun y=>1970≤y∧bf y≤N) (fun y=>(10000-y).toNat) 1970 (h0:=⟨by omega,by rw [bf_1970];exact n0⟩) (he:=.cons (cI (by rw [bf_1970];omega)) .nil) (hr:=?_)
 rintro y ⟨hy,hb⟩
 have hy9:=year_stop n0 n1 hy hb
 have hs:=bf_succ y
 have hbd:=bf_bd y hy (by omega)
 refine jU 50906751620 ?_;refine jF1 5 (rleap_ac _) ?_;refine jF3 521167851200 521167810 (fun h62=>?_) fun h62=>?_
 rotate_left
 ·refine jF3 2078400020008000020006000 9095090200519116810 (fun h65=>?_) fun h65=>?_
  rotate_left
  ·refine jF7 84005 1 ?_
   exact jlend (y+1) (h1:=⟨by omega,by simp only [*,Bool.false_eq_true,if_false] at hs;omega⟩) (h5:=by exact .cons (cI (by simp only [*,Bool.false_eq_true,if_false] at hs;omega)) .nil)
  refine jlp (α:=Int) [4,4,30,47] (fun m=>[(4,.c (.int .i64 (N-bf y-cum y m)))]) (fun m=>[(p1,.blk 6 (dF D6.zero)),(p2,.blk 6 (dF ⟨y,m,0,t / 3600 % 24,t / 60 % 60,t % 60⟩))]) (fun m=>1≤m∧m≤12∧cum y m≤N-bf y) (fun m=>(13-m).toNat) 1 (h0:=⟨by omega,by omega,by rw [cum_one];omega⟩) (he:=.cons (cI (by rw [cum_one];omega)) .nil) (hr:=?_)
  rintro m ⟨m1,m2,hc⟩
  have hcb:=cum_bd y m m1 (by omega)
  have hcs:=cum_succ y m m1 m2
  have hdd:=days_le y m
  have hc13:=cum_13 y
  have hm13:m=12→cum y (m+1)=cum y 13:=fun h=>by rw [h];rfl
  refine jU 501005090167 ?_;refine jF1 52 (rdays_ac _ _) ?_;refine jF3 5010050901620810 100091684000200020006000 (fun h71=>?_) fun h71=>?_
  ·refine jF1 100950100200519 (rdays_ac _ _) ?_;refine jF7 84005 1 ?_
   exact jlend (m+1) (h1:=⟨by omega,by refine Decidable.byContradiction fun hn=>?_;have:=hm13 (by omega);dsimp only at *;simp only [*,Bool.false_eq_true,if_false] at hs;omega,by dsimp only at *;omega⟩) (h5:=by exact .cons (cI (by dsimp only at *;omega)) .nil)
  refine jF7 65 1 ?_;refine jqo (jrdoA 6) ?_;refine jF7 5 6 ?_
  refine jR (jrt (hres:=res_1 rfl (javA 6)) (hv:=?_))
  have hR:RightP ⟨y,m,N-bf y-cum y m+1,t / 3600 % 24,t / 60 % 60,t % 60⟩:=by
   unfold RightP
   dsimp only at *
   omega
  have hS:secM ⟨y,m,N-bf y-cum y m+1,t / 3600 % 24,t / 60 % 60,t % 60⟩=t:=by
   unfold secM dn
   dsimp only
   clear hcs hcb hc13 hs hbd hR
   omega
  have e:=of_sec hR
  rw [hS] at e
  rw [e]
  exact CEnt.agg6 cZ cZ cZ cZ cZ cZ
 refine jF3 2078400020008000020006000 9095090200519116810 (fun h65=>?_) fun h65=>?_
 rotate_left
 ·refine jF7 84005 1 ?_
  exact jlend (y+1) (h1:=⟨by omega,by simp only [*,if_true] at hs;omega⟩) (h5:=by exact .cons (cI (by simp only [*,if_true] at hs;omega)) .nil)
 refine jlp (α:=Int) [4,4,30,47] (fun m=>[(4,.c (.int .i64 (N-bf y-cum y m)))]) (fun m=>[(p1,.blk 6 (dF D6.zero)),(p2,.blk 6 (dF ⟨y,m,0,t / 3600 % 24,t / 60 % 60,t % 60⟩))]) (fun m=>1≤m∧m≤12∧cum y m≤N-bf y) (fun m=>(13-m).toNat) 1 (h0:=⟨by omega,by omega,by rw [cum_one];omega⟩) (he:=.cons (cI (by rw [cum_one];omega)) .nil) (hr:=?_)
 rintro m ⟨m1,m2,hc⟩
 have hcb:=cum_bd y m m1 (by omega)
 have hcs:=cum_succ y m m1 m2
 have hdd:=days_le y m
 have hc13:=cum_13 y
 have hm13:m=12→cum y (m+1)=cum y 13:=fun h=>by rw [h];rfl
 refine jU 501005090167 ?_;refine jF1 52 (rdays_ac _ _) ?_;refine jF3 5010050901620810 100091684000200020006000 (fun h71=>?_) fun h71=>?_
 ·refine jF1 100950100200519 (rdays_ac _ _) ?_;refine jF7 84005 1 ?_
  exact jlend (m+1) (h1:=⟨by omega,by refine Decidable.byContradiction fun hn=>?_;have:=hm13 (by omega);dsimp only at *;simp only [*,if_true] at hs;omega,by dsimp only at *;omega⟩) (h5:=by exact .cons (cI (by dsimp only at *;omega)) .nil)
 refine jF7 65 1 ?_;refine jqo (jrdoA 6) ?_;refine jF7 5 6 ?_
 refine jR (jrt (hres:=res_1 rfl (javA 6)) (hv:=?_))
 have hR:RightP ⟨y,m,N-bf y-cum y m+1,t / 3600 % 24,t / 60 % 60,t % 60⟩:=by
  unfold RightP
  dsimp only at *
  omega
 have hS:secM ⟨y,m,N-bf y-cum y m+1,t / 3600 % 24,t / 60 % 60,t % 60⟩=t:=by
  unfold secM dn
  dsimp only
  clear hcs hcb hc13 hs hbd hR
  omega
 have e:=of_sec hR
 rw [hS] at e
 rw [e]
 exact CEnt.agg6 cZ cZ cZ cZ cZ cZ

theorem tex_bd {x:D6} (h:RightP x) {i:Nat} (hi:i<(texF x).length):0≤(texF x).getD i 0∧(texF x).getD i 0≤99:=by
 obtain ⟨q1,q2,q3,q4,q5,q6,q7,q8,q9,q10⟩:=id h
 have:=days_le x.y x.m
 have qm:=days_pos q3 q4
 rcases i with _|_|_|_|_|_|_|i
 ·show 0≤x.y / 100∧x.y / 100≤99;omega
 ·show 0≤x.y % 100∧x.y % 100≤99;omega
 ·show 0≤x.m∧x.m≤99;omega
 ·show 0≤x.d∧x.d≤99;omega
 ·show 0≤x.h∧x.h≤99;omega
 ·show 0≤x.mi∧x.mi≤99;omega
 ·show 0≤x.s∧x.s≤99;omega
 ·simp [texF] at hi;omega
theorem rtext6_ac {gs:List Nat} (x:D6) (h:RightP x):ACp gs Tryz.prog 145 [dateC x] (bsC (bodyL x)):=by
 obtain ⟨q1,q2,_⟩:=id h
 refine ac_oF 44 Tryz.func145 fun al w0 F0 St0=>?_;refine jcr ?_
 refine jqe (jebx 6 fun p1=>?_)
 refine jU 651 ?_;refine jF6 506000000507000000505000000501000501001000000509060000050906751 0 1 zr5 fun p2=>?_;refine jF6 20513 7 1 zr3 fun p3=>?_
 refine jlp (α:=Nat×Option Nat) [3,3,5,5,25,40] (fun (i,g)=>[(3,.os 1 g 0 (texL x i).length 1),(25,.c (.int .i64 (i:Nat)))]) (fun (i,g)=>[(p1,.blk 6 (dF x)),(g,.blk (texL x i).length (byF (texL x i))),(p3,.blk 7 (inF (texF x)))]) (fun i=>i.1≤7) (fun i=>7-i.1) (0,p2) (hH:=.blk rfl (fun j hj=>by rcases j with _|_|_|_|_|_|j <;> first|exact cZ|omega) (.blk rfl (fun j hj=>absurd hj (by show ¬ j<0;omega)) (.blk rfl (fun j hj=>fl_ints (texF x) j hj) .nil))) (hr:=?_)
 rintro ⟨i,g'⟩ (hi:i≤7)
 refine jU 7526 ?_;refine jF3 51507006207810 84000200020006000 (fun h82=>?_) fun h82=>?_
 rotate_left
 ·have hlen:=texL_len x hi
  have hi7:i=7:=by omega
  refine jU 16 ?_
  refine jqe (jebl 1 1 zr5 fun p4=>?_)
  refine jqm (jab (l2:=[90]) fun p5=>?_)
  refine jU 51 ?_;refine jE (freeze 1 rfl) ?_;refine jE (thawB 2 (texL x i++[90]) rfl rfl (by rfl) rfl) ?_;refine jU 80007000 ?_
  subst hi7
  rw [← texL_all (by omega) q2]
  exact cZ
 have hlt:i<(texF x).length:=by simp [texF];omega
 have hb:=tex_bd h hlt
 have hlen:=texL_len x hi
 refine jU 800000910000001800000960000011200 ?_
 refine jqe (jebl 2 1 zr5 fun p4=>?_)
 refine jqm (m_appendB (l2:=[figc ((texF x).getD i 0) 10,figc ((texF x).getD i 0) 1]) rfl rfl rfl (Nat.le_refl _) (fun _ _=>cZ) (src_os rfl (.inl rfl) (by decide)) rfl (hh_bytes (.cons (cI ((by rw [figc_nat (by omega)];show _=48+_;omega))) (.cons (cI ((by rw [figc_nat (by omega)];omega))) .nil))) Tryz.underlying58 nu58 sz5 zr5 by5 rfl (by (simp;omega)) (leaf_fl rfl rfl) rfl rfl (fun p5=>?_))
 refine jU 8519200840051 ?_
 refine jlend (i+1,p5) (h5:=?_) (h7:=?_)
 ·simp only [texL_succ hlt]
  (repeat (first|exact EntE.nil|refine EntE.cons cZ ?_))
 ·simp only [texL_succ hlt]
  (repeat (first|exact HEnt.nil|refine HEnt.same ?_))
end
section
variable {gs:List Nat} [Ok9 gs]
open Go.RowKit Cal
set_option linter.unusedVariables false

def twoI (b:List UInt8) (i j:Nat):Int:=if 2 * j+1<i then two b j else if 2 * j<i then dg b (2 * j) else 0
theorem twoI_bd {b:List UInt8} {i:Nat} (h:∀ k,k<i→isDg b k) (j:Nat):0≤twoI b i j∧twoI b i j≤99:=by
 unfold twoI
 split
 ·have h1:=h (2 * j) (by omega)
  have h2:=h (2 * j+1) (by omega)
  unfold isDg at h1 h2
  unfold two dg
  omega
 ·split
  ·have h1:=h (2 * j) (by omega)
   unfold isDg at h1
   unfold dg
   omega
  ·omega
theorem twoI_succ {b:List UInt8} {i:Nat} (j:Nat):twoI b (i+1) j=if j=i / 2 then 10 * twoI b i j+dg b i else twoI b i j:=by
 unfold twoI
 by_cases hj:j=i / 2
 ·rw [if_pos hj]
  by_cases he:i % 2=0
  ·have e:i=2 * j:=by omega
   subst e
   rw [if_neg (by omega),if_pos (by omega),if_neg (by omega),if_neg (by omega)]
   omega
  ·have e:i=2 * j+1:=by omega
   rw [if_pos (by omega),if_neg (by omega),if_pos (by omega),e]
   rfl
 ·rw [if_neg hj]
  by_cases h1:2 * j+1<i
  ·rw [if_pos (by omega),if_pos h1]
  ·rw [if_neg (by omega),if_neg h1,if_neg (by omega),if_neg (by omega)]
theorem twoI_14 {b:List UInt8} {j:Nat} (h:j<7):twoI b 14 j=two b j:=by unfold twoI;rw [if_pos (by omega)]
theorem two_bd {b:List UInt8} (h:∀ k,k<14→isDg b k) {j:Nat} (hj:j<7):0≤two b j∧two b j≤99:=by rw [← twoI_14 hj];exact twoI_bd h j
def twF (b:List UInt8) (i j:Nat):CV:=.c (.int .i64 (twoI b i j))

theorem mget_ac (b:List UInt8):ACp gs Tryz.prog 121 [bsC b] (.tup 2 (fl [.c (.int .i64 (getV b)),.err (getE b)])):=by
 refine jF5 1231675116 65 Tryz.func121 fun al w0 F0 St0=>?_;refine jF4 7900051000000004444 1 10 (fun g112=>?_) fun g112=>?_
 ·refine jcd (oN 0 3) ?_;refine jU 80003000700088070704000000 ?_
  have hn:¬ formP b:=fun h=>by obtain ⟨h1,h2,h3⟩:=h;omega
  unfold getV getE
  rw [if_neg (fun h=>hn h.1),if_neg hn]
  exact cZ
 refine jq (jri (i:=14)) ?_;refine jU 5500260 ?_;refine jF3 0 6810 (fun h112=>?_) fun h112=>?_
 ·refine jcs ?_;refine jcd (oN 0 3) ?_;refine jU 80003000700088070704000000 ?_
  have hn:¬ formP b:=fun h=>by obtain ⟨h1,h2,h3⟩:=h;omega
  unfold getV getE
  rw [if_neg (fun h=>hn h.1),if_neg hn]
  exact cZ
 refine jqe (jeal (n:=7) zr205 rfl fun p1=>?_)
 refine jU 1675 ?_;refine jq (jrst (hz2:=(show (14:Int)=((14:Nat):Int) from rfl))) ?_;refine jU 20513 ?_
 refine jlp (α:=Nat) [2,3,5,6,20,44] (fun i=>[(20,.c (.int .i64 (i:Nat)))]) (fun i=>[(p1,.blk 7 (twF b i))]) (fun i=>i≤14∧∀ k,k<i→isDg b k) (fun i=>14-i) 0 (h0:=⟨by omega,fun k hk=>by omega⟩) (hH:=.blk rfl (fun j hj=>by rcases j with _|_|_|_|_|_|_|j <;> first|exact cZ|omega) .nil) (hr:=?_)
 rintro i ⟨hi,hd⟩
 refine jU 7526 ?_;refine jF3 75116070016207810 84000200020006000 (fun h116=>?_) fun h116=>?_
 rotate_left
 ·have ht:(b.take 14).length=14:=by simp;omega
  have hi14:i=14:=by omega
  have hd14:∀ k,k<14→isDg b k:=fun k hk=>hd k (by omega)
  have g0:=twoI_bd hd 0
  have g1:=twoI_bd hd 1
  have hf:formP b:=⟨by omega,by omega,hd14⟩
  refine jcr ?_;refine jq (rd_iaddrA1 rfl rfl rfl Tryz.underlying205 sz3 (show (0:Int)=((0:Nat):Int) from rfl) (by (omega))) ?_;refine jU 950 ?_;refine jq (rd_iaddrA1 rfl rfl rfl Tryz.underlying205 sz3 (show (1:Int)=((1:Nat):Int) from rfl) (by (omega))) ?_;refine jU 950 ?_;refine jq (rd_iaddrA1 rfl rfl rfl Tryz.underlying205 sz3 (show (2:Int)=((2:Nat):Int) from rfl) (by (omega))) ?_;refine jU 50 ?_;refine jq (rd_iaddrA1 rfl rfl rfl Tryz.underlying205 sz3 (show (3:Int)=((3:Nat):Int) from rfl) (by (omega))) ?_;refine jU 50 ?_;refine jq (rd_iaddrA1 rfl rfl rfl Tryz.underlying205 sz3 (show (4:Int)=((4:Nat):Int) from rfl) (by (omega))) ?_;refine jU 50 ?_;refine jq (rd_iaddrA1 rfl rfl rfl Tryz.underlying205 sz3 (show (5:Int)=((5:Nat):Int) from rfl) (by (omega))) ?_;refine jU 50 ?_;refine jq (rd_iaddrA1 rfl rfl rfl Tryz.underlying205 sz3 (show (6:Int)=((6:Nat):Int) from rfl) (by (omega))) ?_;refine jU 50 ?_;refine jq (rd_build (n:=6) rfl zr207 pl207 rfl rfl) ?_
  refine jqe (jecP (secs_ac (getD6 b)) ?_ (ho:=rfl) (he:=(.cons (se rfl (CEnt.agg6 (cI (by show 100 * twoI b i 0+twoI b i 1=_;rw [hi14,twoI_14 (by omega),twoI_14 (by omega)];rfl)) (cI (by rw [hi14,twoI_14 (by omega)];rfl)) (cI (by rw [hi14,twoI_14 (by omega)];rfl)) (cI (by rw [hi14,twoI_14 (by omega)];rfl)) (cI (by rw [hi14,twoI_14 (by omega)];rfl)) (cI (by rw [hi14,twoI_14 (by omega)];rfl)))) .nil)))
  refine jU 80007000511900900 ?_
  unfold getV getE
  rw [if_pos hf]
  refine cT (cI ?_) (CEnt.err rfl)
  by_cases hr:RightP (getD6 b)
  ·rw [if_pos hr,if_pos ⟨hf,hr⟩]
  ·rw [if_neg hr,if_neg (fun h=>hr h.2)]
 have ht:(b.take 14).length=14:=by simp;omega
 have hg:(((b.take 14).getD i 0).toNat:Int)=((b.getD i 0).toNat:Int):=by
  simp [List.getD,show i<14 by omega]
 refine jU 1216 ?_;refine jF4 79000510000000044 550021 27 (fun g117=>?_) fun g117=>?_
 ·refine jcd (oN 0 3) ?_;refine jU 8000300050003000300050003000700088070704000000 ?_
  have hn:¬ formP b:=fun h=>by
   obtain ⟨h1,h2,h3⟩:=h
   have:=h3 i (by omega)
   unfold isDg at this
   omega
  unfold getV getE
  rw [if_neg (fun h=>hn h.1),if_neg hn]
  exact cZ
 refine jF3 0 810 (fun h117=>?_) fun h117=>?_
 ·refine jcs ?_;refine jcd (oN 0 3) ?_;refine jU 8000300050003000300050003000700088070704000000 ?_
  have hn:¬ formP b:=fun h=>by
   obtain ⟨h1,h2,h3⟩:=h
   have:=h3 i (by omega)
   unfold isDg at this
   omega
  unfold getV getE
  rw [if_neg (fun h=>hn h.1),if_neg hn]
  exact cZ
 have hdi:isDg b i:=by unfold isDg;omega
 have hdj:=hdi
 unfold isDg at hdj
 have hb2:=twoI_bd hd (i / 2)
 refine jU 60000016000001200 ?_;refine jq (rd_iaddrA1 rfl rfl rfl Tryz.underlying205 sz3 (show _=(((i / 2):Nat):Int) by omega) (by (omega))) ?_;refine jU 91950 ?_;refine jq (jrv .u8 .i64) ?_;refine jU 9 ?_;refine jq (rd_iaddrA1 rfl rfl rfl Tryz.underlying205 sz3 (show _=(((i / 2):Nat):Int) by omega) (by (omega))) ?_;refine jF7 851920084005 1 ?_
 refine jlend (i+1) (h1:=?_) (h7:=?_)
 ·exact ⟨by omega,fun k hk=>by
   rcases Nat.lt_succ_iff_lt_or_eq.1 hk with h|h
   ·exact hd k h
   ·subst h;exact hdi⟩
 ·exact .blk rfl (fun j hj=>by
   refine (CEnt.of_eq (updF_one _ _ _ j)).trans ?_
   unfold twF
   rw [twoI_succ]
   by_cases hj2:j=i / 2
   ·rw [if_pos hj2,if_pos hj2,hj2]
    exact cI (by unfold dg;omega)
   ·rw [if_neg hj2,if_neg hj2]
    exact cZ) .nil

def twL (b:List UInt8) (i:Nat):List Int:=(List.range i).map (two b)
theorem twL_succ (b:List UInt8) (i:Nat):twL b (i+1)=twL b i++[two b i]:=by simp [twL,List.range_succ]
theorem twL_len (b:List UInt8) (i:Nat):(twL b i).length=i:=by simp [twL]
theorem twL_get {b:List UInt8} {i j:Nat} (h:j<i):(twL b i).getD j 0=two b j:=by simp [twL,List.getD,h]
theorem rget_ac {gs:List Nat} (b:List UInt8):ACp gs Tryz.prog 129 [bsC b] (.tup 2 (fl [.c (.int .i64 (getV b)),.c (.int .i64 (getE b))])):=by
 refine jF5 1231675116 96 Tryz.func129 fun al w0 F0 St0=>?_;refine jF4 8000300070005116900051000000004444 1 10 (fun g90=>?_) fun g90=>?_
 ·have hn:¬ formP b:=fun h=>by obtain ⟨h1,h2,h3⟩:=h;omega
  unfold getV getE
  rw [if_neg (fun h=>hn h.1),if_neg hn]
  exact cZ
 refine jq (jri (i:=14)) ?_;refine jU 5500260 ?_;refine jF3 8000300070005116 6810 (fun h90=>?_) fun h90=>?_
 ·have hn:¬ formP b:=fun h=>by obtain ⟨h1,h2,h3⟩:=h;omega
  unfold getV getE
  rw [if_neg (fun h=>hn h.1),if_neg hn]
  exact cZ
 refine jF6 20516751 0 1 zr3 fun p1=>?_
 refine jlp (α:=Nat×Option Nat) [2,5,17,66] (fun (i,g)=>[(4,.os 0 g 0 (twL b i).length 1),(5,.c (.int .i64 (2 * i:Nat)))]) (fun (i,g)=>[(g,.blk (twL b i).length (inF (twL b i)))]) (fun i=>i.1≤7∧∀ k,k<2 * i.1→isDg b k) (fun i=>7-i.1) (0,p1) (h0:=⟨by omega,fun k hk=>by omega⟩) (hH:=.blk rfl (fun j hj=>absurd hj (by show ¬ j<0;omega)) .nil) (hr:=?_)
 rintro ⟨i,g'⟩ ⟨hi,hd⟩
 refine jU 52167 ?_;refine jF3 12607001167207810 784000200020006000 (fun h94=>?_) fun h94=>?_
 rotate_left
 ·have hi7:i=7:=by omega
  subst hi7
  have hf:formP b:=⟨by omega,by omega,fun k hk=>hd k (by omega)⟩
  have hl:=twL_len b 7
  have g0:=two_bd hf.2.2 (j:=0) (by omega)
  have g1:=two_bd hf.2.2 (j:=1) (by omega)
  have t0:(twL b 7).getD 0 0=two b 0:=twL_get (by omega)
  have t1:(twL b 7).getD 1 0=two b 1:=twL_get (by omega)
  have t2:(twL b 7).getD 2 0=two b 2:=twL_get (by omega)
  have t3:(twL b 7).getD 3 0=two b 3:=twL_get (by omega)
  have t4:(twL b 7).getD 4 0=two b 4:=twL_get (by omega)
  have t5:(twL b 7).getD 5 0=two b 5:=twL_get (by omega)
  have t6:(twL b 7).getD 6 0=two b 6:=twL_get (by omega)
  refine jcdB 25 (oT [0,2,4,6,8,10,12,14,16,18,20,22,24,26,28,30,32,34,36,38,40,42,44,46,49] .done) ?_;refine jU 70 ?_;refine jyq (jri (i:=0)) ?_;refine jU 703000010000 ?_;refine jyq (jri (i:=1)) ?_;refine jU 703000010000 ?_;refine jyq (jri (i:=2)) ?_;refine jU 7010000 ?_;refine jyq (jri (i:=3)) ?_;refine jU 7010000 ?_;refine jyq (jri (i:=4)) ?_;refine jU 7010000 ?_;refine jyq (jri (i:=5)) ?_;refine jU 7010000 ?_;refine jyq (jri (i:=6)) ?_;refine jyo jrdo ?_;refine jyq (rd_build (n:=6) rfl zr199 pl199 rfl rfl) ?_
  refine jye (jeal (n:=6) zr199 rfl fun p2=>?_)
  refine jyd ?_
  show ASeq _ _ _ _ _ _
  refine jF7 6785 6 ?_;refine jqo (jrdoA 6) ?_
  refine jqe (jecP (rright6_ac (getD6 b)) ?_ (ho:=rfl) (he:=(.cons (se rfl (CEnt.agg6 (cI (by show (twL b 7).getD 0 0 * 100+(twL b 7).getD 1 0=100 * two b 0+two b 1;rw [t0,t1];omega)) (cI t2) (cI t3) (cI t4) (cI t5) (cI t6))) .nil)))
  refine jU 530 ?_;refine jF3 8000300070005116 810 (fun h101=>?_) fun h101=>?_
  ·unfold getV getE
   rw [if_neg (fun h=>h101 h.2),if_pos hf,if_neg h101]
   exact cZ
  have hr:RightP (getD6 b):=Decidable.not_not.1 h101
  refine jcr ?_;refine jqo (jrdoA 6) ?_
  refine jqe (jecP (rsecs_ac (getD6 b) hr) ?_ (ho:=rfl) (he:=(.cons (se rfl (CEnt.agg6 (cI (by show (twL b 7).getD 0 0 * 100+(twL b 7).getD 1 0=100 * two b 0+two b 1;rw [t0,t1];omega)) (cI t2) (cI t3) (cI t4) (cI t5) (cI t6))) .nil)))
  refine jU 80007000511 ?_
  unfold getV getE
  rw [if_pos ⟨hf,hr⟩,if_pos hf,if_pos hr]
  exact cZ
 refine jF4 800030005000300030005000300070005116900051000000004444441100000000444444110000000044444 150026070011 26 (fun g95=>?_) fun g95=>?_
 ·have hn:¬ formP b:=fun h=>by
   obtain ⟨h1,h2,h3⟩:=h
   have q1:=h3 (2 * i) (by omega)
   have q2:=h3 (2 * i+1) (by omega)
   unfold isDg at q1 q2
   omega
  unfold getV getE
  rw [if_neg (fun h=>hn h.1),if_neg hn]
  exact cZ
 refine jF4 800030005000300030005000300070005116900051000000004444441100000000444444 911 33 (fun g95_2=>?_) fun g95_2=>?_
 ·have hn:¬ formP b:=fun h=>by
   obtain ⟨h1,h2,h3⟩:=h
   have q1:=h3 (2 * i) (by omega)
   have q2:=h3 (2 * i+1) (by omega)
   unfold isDg at q1 q2
   omega
  unfold getV getE
  rw [if_neg (fun h=>hn h.1),if_neg hn]
  exact cZ
 refine jq (jri (i:=(2 * i+1)) (hz:=by omega)) ?_;refine jU 1500260 ?_;refine jF4 80003000500030003000500030007000511690005100000000444444 911 41 (fun g95_3=>?_) fun g95_3=>?_
 ·have hn:¬ formP b:=fun h=>by
   obtain ⟨h1,h2,h3⟩:=h
   have q1:=h3 (2 * i) (by omega)
   have q2:=h3 (2 * i+1) (by omega)
   unfold isDg at q1 q2
   omega
  unfold getV getE
  rw [if_neg (fun h=>hn h.1),if_neg hn]
  exact cZ
 refine jq (jri (i:=(2 * i+1)) (hz:=by omega)) ?_;refine jU 5500260 ?_;refine jF3 800030005000300030005000300070005116 810 (fun h95=>?_) fun h95=>?_
 ·have hn:¬ formP b:=fun h=>by
   obtain ⟨h1,h2,h3⟩:=h
   have q1:=h3 (2 * i) (by omega)
   have q2:=h3 (2 * i+1) (by omega)
   unfold isDg at q1 q2
   omega
  unfold getV getE
  rw [if_neg (fun h=>hn h.1),if_neg hn]
  exact cZ
 have hd1:isDg b (2 * i):=by unfold isDg;omega
 have hd2:isDg b (2 * i+1):=by unfold isDg;omega
 have hdj:=hd1
 have hdk:=hd2
 unfold isDg at hdj hdk
 have hl:=twL_len b i
 refine jcdB 17 (oT [0,2,4,6,8,10,12,14,16,18,20,22,24,26,28,30,33] .done) ?_;refine jU 300007000090000707070 ?_;refine jyq (jrv .u8 .i64) ?_;refine jU 30000707030000 ?_;refine jyq (jri (i:=(2 * i+1)) (hz:=by omega)) ?_;refine jU 3000070000 ?_;refine jyq (jrv .u8 .i64) ?_;refine jyq jra ?_
 refine jye (jebl 1 1 zr3 fun p2=>?_)
 refine jyd ?_
 show ASeq _ _ _ _ _ _
 refine jqm (m_appendC rowC_in (l2:=[two b i]) rfl rfl rfl rfl (by exact Nat.le_of_eq (Nat.mul_one _)) (fun _ _=>cZ) (src_os rfl (.inl rfl) (by decide)) rfl (hh_ints (.cons (cI ((by unfold two dg;omega))) .nil)) Tryz.underlying55 nu55 sz3 zr3 by3 rfl (by (simp;omega)) (by (simp;omega)) (leaf_flk rfl rfl) rfl rfl (Nat.mul_one _) (fun p3=>?_))
 refine jU 85191200840051 ?_
 refine jlend (i+1,p3) (h1:=?_) (h5:=?_) (h7:=?_)
 ·exact ⟨by omega,fun k hk=>by
   by_cases h1:k<2 * i
   ·exact hd k h1
   ·by_cases h2:k=2 * i
    ·subst h2;exact hd1
    ·have h3:k=2 * i+1:=by omega
     subst h3;exact hd2⟩
 ·simp only [twL_succ]
  (repeat (first|exact EntE.nil|refine EntE.cons cZ ?_))
 ·simp only [twL_succ]
  (repeat (first|exact HEnt.nil|refine HEnt.same ?_))
end
section
variable {gs:List Nat} [Ok9 gs]

theorem moment08_ac (n:Nat) (l:List (List UInt8)) (k:Nat) (hl:0<l.length∧l.length≤1000000) (hb:(nowL l).length≤10000000) :
  AC gs Tryz.prog 89 [rdO n l k] [.op 0 (some n) 0]
   (fun r H'=>r=.c (.int .i64 (if (nextR 24 l k).is=true∧getE (nextR 24 l k).body=0 then getV (nextR 24 l k).body else 0))∧H'=[rdO n (nextR 24 l k).l (valK 24 l k getE)]):=by
 refine jF5 16516 5 Tryz.func89 fun al w0 F0 St0=>?_
 refine jqm (jmcE 0 (valueI_ac (m:=0) (fv:=fun _=>.top) (by kernel_rfl) n l k 24 (fun b=>(getV b,getE b)) hl hb (fun b _=>mget_ac b)) ?_ (ho:=rfl) (he:=(.cons (se rfl cP) (.cons (se rfl cZ) (.cons (se rfl CEnt.fn0) .nil)))))
 refine jU 700051 ?_
 exact jnh
end
section
variable {gs:List Nat} [Ok9 gs]

def octM (least most:Int) (b:List UInt8):List UInt8×Nat:=if (b.length:Int)<least then ([],2) else if most<(b.length:Int) then ([],3) else (b,0)
theorem octets08_ac (n:Nat) (l:List (List UInt8)) (k:Nat) (least most:Int) (hl:0<l.length∧l.length≤1000000) (hb:(nowL l).length≤10000000) :
  AC gs Tryz.prog 88 [rdO n l k] [.op 0 (some n) 0,.c (.int .i64 least),.c (.int .i64 most)]
   (fun r H'=>r=bsC (if (nextR 4 l k).is=true∧(octM least most (nextR 4 l k).body).2=0 then (octM least most (nextR 4 l k).body).1 else [])∧H'=[rdO n (nextR 4 l k).l (valK 4 l k fun b=>(octM least most b).2)]):=by
 have g:∀ b:List UInt8,ACp gs Tryz.prog 120 (bsC b::(List.range 2).map (twoF least most)) (.tup 2 (fl [bsC (octM least most b).1,.err (octM least most b).2])):=fun b=>by
  refine jF5 512603162075116 19 Tryz.func120 fun al w0 F0 St0=>?_;refine jF3 0 51260316 (fun h260=>?_) fun h260=>?_
  ·refine jcs ?_;refine jcd (oN 0 3) ?_;refine jyq (jrde 1) ?_;refine jU 80003000500070008807070 ?_
   have e:octM least most b=([],2):=by unfold octM;rw [if_pos (by omega)]
   rw [e]
   exact cT cN cZ
  refine jF3 0 8000700051116840010 (fun h262=>?_) fun h262=>?_
  rotate_left
  ·have e:octM least most b=(b,0):=by unfold octM;rw [if_neg (by omega),if_neg (by omega)]
   rw [e]
   exact cT cZ CEnt.nil
  refine jcs ?_;refine jcd (oN 0 3) ?_;refine jyq (jrde 2) ?_;refine jU 80003000500070008807070 ?_
  have e:octM least most b=([],3):=by unfold octM;rw [if_neg (by omega),if_pos (by omega)]
  rw [e]
  exact cT cN cZ
 refine ac_oF 10 Tryz.func88 fun al w0 F0 St0=>?_;refine jcr ?_
 refine jqe (jebx 1 fun p1=>?_)
 refine jqe (jebx 1 fun p2=>?_)
 refine jU 51 ?_;refine jE (freeze 1 rfl) ?_;refine jE (freeze 2 rfl) ?_;refine jE (thawP 4 (m:=1) rfl rfl (by decide)) ?_;refine jE (thawP 5 (m:=1) rfl rfl (by decide)) ?_;refine jU 16 ?_;refine jq jrmf ?_
 refine jqm (jmcE 0 (valueL_ac (fv:=twoF least most) (by kernel_rfl) n l k 4 (octM least most) hl hb (fun b _=>g b)) ?_ (ho:=rfl) (he:=(.cons (se rfl cP) (.cons (se rfl cZ) (.cons (se rfl (CEnt.fn2' (CEnt.rp int_box) (CEnt.rp int_box))) .nil)))))
 refine jU 700051 ?_
 exact jnh
theorem text08_ac [OkT gs] (n:Nat) (l:List (List UInt8)) (k:Nat) (most:Int) (hl:0<l.length∧l.length≤1000000) (hb:(nowL l).length≤10000000) :
  AC gs Tryz.prog 46 [rdO n l k] [.op 0 (some n) 0,.c (.int .i64 most)]
   (fun r H'=>r=strC (if (nextR 12 l k).is=true∧askedM (nextR 12 l k).body most=0 then (if askedM (nextR 12 l k).body most=0 then (nextR 12 l k).body else []) else [])∧H'=[rdO n (nextR 12 l k).l (valK 12 l k fun b=>askedM b most)]):=by
 have g:∀ b:List UInt8,b.length≤65530→ACp gs Tryz.prog 84 (bsC b::(List.range 1).map (fl [.rp 1 fun _=>.c (.int .i64 most)])) (.tup 2 (fl [strC (if askedM b most=0 then b else []),.err (askedM b most)])):=fun b hb=>by
  refine jF5 60165116 10 Tryz.func84 fun al w0 F0 St0=>?_;refine jF1 511900900 (xget_ac b most (by omega)) ?_
  refine jR jrt
 refine ac_oF 8 Tryz.func46 fun al w0 F0 St0=>?_;refine jcr ?_
 refine jqe (jebx 1 fun p1=>?_)
 refine jU 51 ?_;refine jE (freeze 1 rfl) ?_;refine jE (thawP 3 (m:=1) rfl rfl (by decide)) ?_;refine jU 16 ?_;refine jq jrmf ?_
 refine jqm (jmcE 0 (valueS_ac (fv:=fl [.rp 1 fun _=>.c (.int .i64 most)]) (by kernel_rfl) n l k 12 (fun b=>(if askedM b most=0 then b else [],askedM b most)) hl hb g) ?_ (ho:=rfl) (he:=(.cons (se rfl cP) (.cons (se rfl cZ) (.cons (se rfl (CEnt.fn1 (CEnt.rp int_box))) .nil)))))
 refine jU 700051 ?_
 exact jnh
def RD (gs:List Nat) (f:FuncId) (l:List (List UInt8)) (k:Nat) (args:List CV) (r:CV) (l':List (List UInt8)) (k':Nat):Prop:=∀ n,AC gs Tryz.prog f [rdO n l k] (.op 0 (some n) 0::args) (fun x H'=>x=r∧H'=[rdO n l' k'])
end
section
variable {gs:List Nat} [Ok9 gs]
open Go.RowKit Cal

structure AA where
 kind:Int
 tag:Int
 least:Int
 most:Int
def askC (a:AA):CV:=.agg 4 (fl [.c (.int .i64 a.kind),.c (.int .i64 a.tag),.c (.int .i64 a.least),.c (.int .i64 a.most)])
def vN (n:Int):VV:=⟨0,n,false,[],[]⟩
def vI (b:Bool):VV:=⟨0,0,b,[],[]⟩
def vB (b:List UInt8):VV:=⟨0,0,false,b,[]⟩
def vT (t:List UInt8):VV:=⟨0,0,false,[],t⟩
def saidM (a:AA) (b:List UInt8):VV×Nat :=
 if a.kind=3 then (vN (rangeM b a.least a.most).1,(rangeM b a.least a.most).2) else
 if a.kind=4 then (vN (rangeM b a.least a.most).1,(rangeM b a.least a.most).2) else
 if a.kind=5 then (vI (isTrueM b).1,(isTrueM b).2) else
 if a.kind=6 then (vB (octM a.least a.most b).1,(octM a.least a.most b).2) else
 if a.kind=7 then (vT (if askedM b a.most=0 then b else []),askedM b a.most) else
 if a.kind=8 then (vT (ogetM b).1,(ogetM b).2) else
 if a.kind=9 then (vN (getV b),getE b) else (vN ((maskM b).1:Nat),(maskM b).2)
def tagA (a:AA):Int:=if a.kind=3 then 2 else if a.kind=4 then 10 else if a.kind=5 then 1 else if a.kind=6 then 4 else if a.kind=7 then 12 else if a.kind=8 then 6 else if a.kind=9 then 24 else 3
structure R8R where
 l:List (List UInt8)
 k:Nat
 v:VV
def readV (tag:Int) (said:List UInt8→VV×Nat) (l:List (List UInt8)) (k:Nat):R8R :=
 ⟨(nextR tag l k).l,valK tag l k fun b=>(said b).2,if (nextR tag l k).is=true∧(said (nextR tag l k).body).2=0 then (said (nextR tag l k).body).1 else VV.none⟩
def readR (a:AA) (l:List (List UInt8)) (k:Nat):R8R :=
 if a.kind=1 then ⟨enterL a.tag l k,(enterR a.tag l k).k,vI (enterR a.tag l k).is⟩ else
 if a.kind=2 then ⟨leaveL l k,leaveK l k,VV.none⟩ else
 if a.kind=11 then ⟨(nextR 0 l k).l,(nextR 0 l k).k,vB (nextR 0 l k).raw⟩ else readV (tagA a) (saidM a) l k
theorem readR_g {α:Type} (c:α→VV) (z:α) (hz:c z=VV.none) {a:AA} {l:List (List UInt8)} {k:Nat} {t:Int} {f:List UInt8→α×Nat} (h1:a.kind≠1) (h2:a.kind≠2) (h3:a.kind≠11) (hs:saidM a=fun b=>(c (f b).1,(f b).2)) (ht:tagA a=t) :
  readR a l k=⟨(nextR t l k).l,valK t l k fun b=>(f b).2,c (if (nextR t l k).is=true∧(f (nextR t l k).body).2=0 then (f (nextR t l k).body).1 else z)⟩:=by
 subst ht
 unfold readR
 rw [if_neg h1,if_neg h2,if_neg h3]
 unfold readV
 rw [hs]
 simp only
 split
 ·rfl
 ·rw [hz]
end
section
open Go.RowKit Cal
def muS (l:List (List UInt8)) (k:Nat):Nat:=sumL l+if k=0 then 1 else 0
theorem sumL_set (x:List UInt8):∀ {l:List (List UInt8)} {i:Nat},i<l.length→sumL (l.set i x)+(l.getD i []).length=sumL l+x.length
 | y::l,0,_=>by simp only [List.set_cons_zero,List.getD_cons_zero,sumL,List.map_cons,List.sum_cons];omega
 | y::l,i+1,h=>by
  have:=sumL_set x (l:=l) (i:=i) (by simpa using h)
  simp only [List.set_cons_succ,List.getD_cons_succ,sumL,List.map_cons,List.sum_cons] at this ⊢
  omega
theorem now_sum (l:List (List UInt8)):(nowL l).length≤sumL l:=by
 unfold nowL
 by_cases h:l.length-1<l.length
 ·have:=sumL_set [] h
  grind
 simp_all
theorem next_mu {t:Int} {l:List (List UInt8)} {k:Nat} (hl:0<l.length):(k≠0→nextR t l k=⟨l,k,0,[],[],false⟩)∧(nextR t l k).l.length=l.length∧muS (nextR t l k).l (nextR t l k).k≤muS l k∧(k=0→muS (nextR t l k).l (nextR t l k).k<muS l k) ∧
  ((nextR t l k).is=true↔(nextR t l k).k=0)∧((nextR t l k).is=true→k=0)∧((nextR t l k).is=false→(nextR t l k).l=l):=by
 grind [nextM_bd,nowL,sumL_set,nextR,muS]
theorem nextM_sum (b:List UInt8) (h:(nextM b).e=0):(nextM b).body.length+(nextM b).rest.length<b.length:=by
 grind [measM_rest,nextM]
theorem enter_mu {t:Int} {l:List (List UInt8)} {k:Nat} (hl:0<l.length):(k≠0→enterL t l k=l∧(enterR t l k).k=k)∧muS (enterL t l k) (enterR t l k).k≤muS l k∧(k=0→muS (enterL t l k) (enterR t l k).k<muS l k) ∧
  ((enterR t l k).k=0→(enterL t l k).length=l.length+1)∧((enterR t l k).k≠0→(enterL t l k).length=l.length)∧((enterR t l k).is=true↔(enterR t l k).k=0):=by
 have hq:∀ q,q=(if moreM l k=true∧madeM t=false then 5 else k)→(k≠0→q=k)∧(k=0→q=0∨q=5):=by
  rintro _ rfl
  refine ⟨fun h=>if_neg ?_,fun h=>?_⟩
  ·grind [moreM]
  ·grind
 unfold enterL enterR
 generalize hk:(if moreM l k=true∧madeM t=false then 5 else k)=q
 obtain ⟨q1,q2⟩:=hq q hk.symm
 obtain ⟨n1,n2,n3,n4,n5,n6,n7⟩:=next_mu (t:=t) (l:=l) (k:=q) hl
 by_cases hi:(nextR t l q).is=true
 ·have hk0:=n5.1 hi
  have hq0:=n6 hi
  subst hq0
  have hkz:k=0:=by rcases Nat.eq_zero_or_pos k with h|h;exact h;exact (q1 (by omega)).symm
  subst hkz
  have hb:muS ((nextR t l 0).l++[(nextR t l 0).body]) (nextR t l 0).k<muS l 0:=by
   rw [hk0]
   revert hi
   unfold nextR
   rw [if_neg (by decide)]
   by_cases h1:(nextM (nowL l)).e≠0
   ·grind
   ·grind [nowL,nextM_sum,sumL_set,muS,sumL]
  grind
 grind [muS]
theorem leave_mu {l:List (List UInt8)} {k:Nat} (hl:0<l.length):(k≠0→leaveL l k=l∧leaveK l k=k)∧muS (leaveL l k) (leaveK l k)≤muS l k∧(leaveK l k=0→k=0∧(leaveL l k).length+1=l.length∧1<l.length)∧(leaveK l k≠0→leaveL l k=l):=by
 have hk:(k≠0→leaveK l k=k):=fun h=>by unfold leaveK;rw [if_pos h]
 have h0:leaveK l k=0→k=0∧1<l.length:=fun h=>by
  grind [leaveK]
 refine ⟨fun h=>⟨by grind [leaveL],hk h⟩,?_,fun h=>?_,fun h=>by unfold leaveL;rw [if_neg h]⟩
 ·unfold leaveL
  by_cases h:leaveK l k=0
  ·have h1:=h0 h
   rw [if_pos h]
   unfold muS
   rw [if_pos h,if_pos h1.1]
   have h2:=sumL_take (ls:=l) (i:=l.length-1) (by omega)
   grind
  grind [muS]
 grind [leaveL]
theorem read_mu (a:AA) {l:List (List UInt8)} {k:Nat} (hl:0<l.length):(k≠0→(readR a l k).l=l∧(readR a l k).k=k)∧muS (readR a l k).l (readR a l k).k≤muS l k∧(k=0→a.kind≠2→muS (readR a l k).l (readR a l k).k<muS l k) ∧
  (a.kind=1→((readR a l k).k=0→(readR a l k).l.length=l.length+1)∧((readR a l k).k≠0→(readR a l k).l.length=l.length)) ∧
  (a.kind=2→((readR a l k).k=0→(readR a l k).l.length+1=l.length∧1<l.length)∧((readR a l k).k≠0→(readR a l k).l.length=l.length)) ∧
  (a.kind≠1→a.kind≠2→(readR a l k).l.length=l.length)∧((readR a l k).k=0→k=0):=by
 unfold readR
 grind [enter_mu,leave_mu,muS,next_mu,readV,valK]
abbrev StepR (α:Type):=List (List UInt8)→Nat→(List (List UInt8)×Nat)×α
structure StepOk {α:Type} (sp:StepR α):Prop where
 mu:∀ l k,0<l.length→moreM l k=true→muS (sp l k).1.1 (sp l k).1.2<muS l k
 len:∀ l k,0<l.length→moreM l k=true→(sp l k).1.2=0→(sp l k).1.1.length=l.length
 grow:∀ l k,0<l.length→moreM l k=true→l.length≤(sp l k).1.1.length∧(sp l k).1.1.length≤l.length+16
section
variable {α:Type} (sp:StepR α) (l0:List (List UInt8)) (k0:Nat) (most:Int)
def stG:Nat→(List (List UInt8)×Nat)×List α
 | 0=>((l0,k0),[])
 | j+1=>((sp (stG j).1.1 (stG j).1.2).1,(stG j).2++[(sp (stG j).1.1 (stG j).1.2).2])
def goB (j:Nat):Bool:=moreM (stG sp l0 k0 j).1.1 (stG sp l0 k0 j).1.2 && decide ((j:Int)<most)
def firstG (p:Nat→Bool):Nat→Nat→Nat
 | 0,j=>j
 | n+1,j=>if p j=true then firstG p n (j+1) else j
theorem firstG_spec (p:Nat→Bool):∀ n j,(∀ i,i<j→p i=true)→(∀ i,i<firstG p n j→p i=true)∧(p (firstG p n j)=false∨firstG p n j=j+n)
 | 0,j,h=>⟨h,.inr rfl⟩
 | n+1,j,h=>by
  unfold firstG
  by_cases hp:p j=true
  ·rw [if_pos hp]
   obtain ⟨h1,h2⟩:=firstG_spec p n (j+1) (fun i hi=>if e:i=j then e ▸ hp else h i (by omega))
   exact ⟨h1,h2.imp id (fun e=>by omega)⟩
  ·rw [if_neg hp]
   exact ⟨h,.inl (by simpa using hp)⟩
def jG:Nat:=firstG (goB sp l0 k0 most) (muS l0 k0+1) 0
def endG:List (List UInt8)×Nat :=
 let s:=(stG sp l0 k0 (jG sp l0 k0 most)).1
 if moreM s.1 s.2=true then (leaveL s.1 3,leaveK s.1 3) else (leaveL s.1 s.2,leaveK s.1 s.2)
theorem stG_out:∀ j,(stG sp l0 k0 j).2.length=j
 | 0=>rfl
 | j+1=>by
  show (_++[_]).length=_
  rw [List.length_append,stG_out j];rfl
variable {sp l0 k0 most}
theorem stG_bd (ok:StepOk sp) (hl:0<l0.length):∀ j,(∀ i,i<j→goB sp l0 k0 most i=true)→muS (stG sp l0 k0 j).1.1 (stG sp l0 k0 j).1.2+j≤muS l0 k0∧((stG sp l0 k0 j).1.2=0→(stG sp l0 k0 j).1.1.length=l0.length)∧l0.length≤(stG sp l0 k0 j).1.1.length∧(stG sp l0 k0 j).1.1.length≤l0.length+16
 | 0,_=>⟨Nat.le_refl _,fun _=>rfl,Nat.le_refl _,by show l0.length≤l0.length+16;omega⟩
 | j+1,h=>by
  obtain ⟨h1,h2,h3,h4⟩:=stG_bd ok hl j fun i hi=>h i (by omega)
  have hg:=h j (by omega)
  unfold goB at hg
  rw [Bool.and_eq_true] at hg
  have hk:=(more_pos hg.1).1
  have hlen:=h2 hk
  have hp:0<(stG sp l0 k0 j).1.1.length:=by omega
  have m1:=ok.mu _ _ hp hg.1
  have m2:=ok.len _ _ hp hg.1
  have m3:=ok.grow _ _ hp hg.1
  grind [stG]
theorem jG_stop (ok:StepOk sp) (hl:0<l0.length):(∀ i,i<jG sp l0 k0 most→goB sp l0 k0 most i=true)∧goB sp l0 k0 most (jG sp l0 k0 most)=false:=by
 obtain ⟨h1,h2⟩:=firstG_spec (goB sp l0 k0 most) (muS l0 k0+1) 0 (fun i hi=>absurd hi (Nat.not_lt_zero i))
 refine ⟨h1,?_⟩
 rcases h2 with h2|h2
 ·exact h2
 ·have:=(stG_bd ok hl _ h1).1
  omega
theorem jG_one (ok:StepOk sp) (hl:0<l0.length) {j:Nat} (h1:∀ i,i<j→goB sp l0 k0 most i=true) (h2:goB sp l0 k0 most j=false):jG sp l0 k0 most=j:=by
 grind [jG_stop]
end
end
section
open Go.RowKit Cal
theorem b8_eq {n:Nat} {x:UInt8} (h:n % 256=x.toNat):b8 n=x:=UInt8.toNat_inj.1 (by rw [b8_mod,h])
theorem list_one {x:List UInt8} (h:x.length=1):x=[x.getD 0 0]:=by
 match x,h with
 | [a],_=>rfl
theorem list_two {x:List UInt8} (h:x.length=2):x=[x.getD 0 0,x.getD 1 0]:=by
 match x,h with
 | [a,b],_=>rfl
theorem list_three {x:List UInt8} (h:x.length=3):x=[x.getD 0 0,x.getD 1 0,x.getD 2 0]:=by
 match x,h with
 | [a,b,c],_=>rfl
theorem list_four {x:List UInt8} (h:x.length=4):x=[x.getD 0 0,x.getD 1 0,x.getD 2 0,x.getD 3 0]:=by
 match x,h with
 | [a,b,c,d],_=>rfl
theorem meas_canon {b:List UInt8} (h:(measM b).e=0):b=lenL (measM b).n++(measM b).rest:=by
 revert h
 unfold measM
 by_cases h0:b.length=0
 ·simp_all
 ·rw [if_neg h0]
  dsimp only
  have hb:b=b.getD 0 0::b.drop 1:=by
   match b,h0 with
   | c::r,_=>rfl
  generalize hc:b.getD 0 0=c at hb ⊢
  generalize hr:b.drop 1=r at hb ⊢
  subst hb
  have hc8:=c.toNat_lt
  by_cases h1:c.toNat≤127
  ·grind [lenL,b8_eq]
  ·rw [if_neg h1]
   by_cases h2:c.toNat=128∨132<c.toNat
   ·simp_all
   ·rw [if_neg h2]
    by_cases h3:r.length<c.toNat-128
    ·simp_all
    ·rw [if_neg h3]
     by_cases h4:beN (r.take (c.toNat-128))≤127∨(r.getD 0 0).toNat=0
     ·simp_all
     ·rw [if_neg h4]
      intro _
      dsimp only
      obtain ⟨h5,h6⟩:=not_or.1 h4
      have hd:c::r=c::(r.take (c.toNat-128)++r.drop (c.toNat-128)):=by rw [List.take_append_drop]
      have hl:(r.take (c.toNat-128)).length=c.toNat-128:=by rw [List.length_take];omega
      have h0r:(r.take (c.toNat-128)).getD 0 0=r.getD 0 0:=by
       simp only [List.getD_eq_getElem?_getD,List.getElem?_take]
       rw [if_pos (by omega)]
      rw [hd]
      rw [← h0r] at h6
      generalize r.drop (c.toNat-128)=q at *
      generalize r.take (c.toNat-128)=x at *
      have hcx:c=b8 c.toNat:=(b8_eq (by omega)).symm
      obtain e|e|e|e:c.toNat=129∨c.toNat=130∨c.toNat=131∨c.toNat=132:=by omega
      ·have hx:=list_one (x:=x) (by omega)
       generalize x.getD 0 0=x0 at hx h6
       subst hx
       have h7:=x0.toNat_lt
       simp only [beN,List.foldl_cons,List.foldl_nil,Nat.zero_mul,Nat.zero_add] at h5 ⊢
       unfold lenL
       rw [if_neg (by omega),if_pos (by omega),b8_eq (show x0.toNat % 256=x0.toNat by omega),hcx,e]
       rfl
      ·have hx:=list_two (x:=x) (by omega)
       generalize x.getD 0 0=x0 at hx h6
       generalize x.getD 1 0=x1 at hx
       subst hx
       have h7:=x0.toNat_lt
       have h8:=x1.toNat_lt
       simp only [beN,List.foldl_cons,List.foldl_nil,Nat.zero_mul,Nat.zero_add] at h5 ⊢
       unfold lenL
       rw [if_neg (by omega),if_neg (by omega),if_pos (by omega),b8_eq (show (x0.toNat * 256+x1.toNat) / 256 % 256=x0.toNat by omega),b8_eq (show (x0.toNat * 256+x1.toNat) % 256=x1.toNat by omega),hcx,e]
       rfl
      ·have hx:=list_three (x:=x) (by omega)
       generalize x.getD 0 0=x0 at hx h6
       generalize x.getD 1 0=x1 at hx
       generalize x.getD 2 0=x2 at hx
       subst hx
       have h7:=x0.toNat_lt
       have h8:=x1.toNat_lt
       have h9:=x2.toNat_lt
       simp only [beN,List.foldl_cons,List.foldl_nil,Nat.zero_mul,Nat.zero_add] at h5 ⊢
       unfold lenL
       rw [if_neg (by omega),if_neg (by omega),if_neg (by omega),if_pos (by omega),b8_eq (show ((x0.toNat * 256+x1.toNat) * 256+x2.toNat) / 65536 % 256=x0.toNat by omega),b8_eq (show ((x0.toNat * 256+x1.toNat) * 256+x2.toNat) / 256 % 256=x1.toNat by omega),b8_eq (show ((x0.toNat * 256+x1.toNat) * 256+x2.toNat) % 256=x2.toNat by omega),hcx,e]
       rfl
      ·have hx:=list_four (x:=x) (by omega)
       generalize x.getD 0 0=x0 at hx h6
       generalize x.getD 1 0=x1 at hx
       generalize x.getD 2 0=x2 at hx
       generalize x.getD 3 0=x3 at hx
       subst hx
       have h7:=x0.toNat_lt
       have h8:=x1.toNat_lt
       have h9:=x2.toNat_lt
       have h10:=x3.toNat_lt
       simp only [beN,List.foldl_cons,List.foldl_nil,Nat.zero_mul,Nat.zero_add] at h5 ⊢
       unfold lenL
       rw [if_neg (by omega),if_neg (by omega),if_neg (by omega),if_neg (by omega),b8_eq (show (((x0.toNat * 256+x1.toNat) * 256+x2.toNat) * 256+x3.toNat) / 16777216 % 256=x0.toNat by omega),b8_eq (show (((x0.toNat * 256+x1.toNat) * 256+x2.toNat) * 256+x3.toNat) / 65536 % 256=x1.toNat by omega),b8_eq (show (((x0.toNat * 256+x1.toNat) * 256+x2.toNat) * 256+x3.toNat) / 256 % 256=x2.toNat by omega),b8_eq (show (((x0.toNat * 256+x1.toNat) * 256+x2.toNat) * 256+x3.toNat) % 256=x3.toNat by omega),hcx,e]
       rfl
theorem nx_known {b:List UInt8} (h:(nextM b).e=0):knownM ((nextM b).tag:Nat)=true:=by
 grind [nextM]
theorem next_canon {b:List UInt8} (h:(nextM b).e=0):b=putL ((nextM b).tag:Nat) (nextM b).body++(nextM b).rest∧knownM ((nextM b).tag:Nat)=true∧(nextM b).body.length≤65530:=by
 refine ⟨?_,nx_known h,(nextM_bd b).2.2.1⟩
 revert h
 unfold nextM
 by_cases h0:b.length=0
 ·simp_all
 ·rw [if_neg h0]
  by_cases h1:knownM ((b.getD 0 0).toNat:Nat)=false
  ·simp_all
  ·rw [if_neg h1]
   dsimp only
   by_cases h2:(measM (b.drop 1)).e≠0
   ·simp_all
   ·rw [if_neg h2]
    have hm:=meas_canon (b:=b.drop 1) (by omega)
    by_cases h3:65530<(measM (b.drop 1)).n
    ·grind
    ·rw [if_neg h3]
     by_cases h4:(measM (b.drop 1)).rest.length<(measM (b.drop 1)).n
     ·grind
     ·rw [if_neg h4]
      intro _
      dsimp only
      have hb:b=b.getD 0 0::b.drop 1:=by
       match b,h0 with
       | c::r,_=>rfl
      grind [Int.toNat_natCast,UInt8.ofNat_toNat,putL,List.take_append_drop]
theorem nextR_canon {t:Int} {l:List (List UInt8)} {k:Nat} (ht:t≠0) (h:(nextR t l k).k=0):k=0∧nowL l=putL t (nextR t l k).body++(nextM (nowL l)).rest∧(nextR t l k).l=l.set (l.length-1) (nextM (nowL l)).rest∧knownM t=true∧(nextR t l k).body.length≤65530∧(nextR t l k).is=true:=by
 grind [nextR,next_canon]
theorem oget_canon {b:List UInt8} (h:(ogetM b).2=0):putM (ogetM b).1=b∧(parseM (ogetM b).1).2=0:=by
 grind [ogetM,getA,put_get,parse_text,putM]
theorem int_canon {b:List UInt8} (h:(getM b).2=0):putN (getM b).1=b:=by
 grind [getM_len,getM_bd,putN_of]
theorem range_canon {b:List UInt8} {x y:Int} (h:(rangeM b x y).2=0):putN (rangeM b x y).1=b∧(getM b).2=0∧(rangeM b x y).1=(getM b).1∧x≤(getM b).1∧(getM b).1≤y:=by
 grind [rangeM,int_canon]
end
section
open Go.RowKit Cal
structure Elt (x:List UInt8) (t:Nat) (b:List UInt8):Prop where
 nx:∀ r,nextM (x++r)=⟨0,t,b,r⟩
 pos:0<x.length
 wh:∀ lv,lv≤16→(wholeM lv t b).2=0∨(wholeM lv t b).2=6
def IsE (x:List UInt8):Prop:=∃ t b,Elt x t b
structure GoodW (s:W8):Prop where
 fr:∀ f ∈ s.fr,madeM f.1=true∧∀ y ∈ f.2,IsE y
 d:∃ xs:List (List UInt8),s.d=xs.flatten∧∀ x ∈ xs,IsE x
end
section
open Go.RowKit Cal
def doAll (vs:List VV) (s:W8):W8:=vs.foldl (fun s v=>doW v s) s
def rdoAll (vs:List VV) (r:R8):R8:=vs.foldl (fun r v=>rdoS v r) r
theorem doAll_app (a b:List VV) (s:W8):doAll (a++b) s=doAll b (doAll a s):=by unfold doAll;rw [List.foldl_append]
theorem inv_mono {i j:Nat} {r:R8} {s:W8} (h:Inv8 i r s) (hij:i≤j):Inv8 j r s :=
 ⟨h.same,by have:=h.w;omega,fun x hx=>by have:=h.rows x hx;omega,h.n⟩
theorem inv_all:∀ (vs:List VV) {i:Nat} {r:R8} {s:W8},Inv8 i r s→(∀ v ∈ vs,SmallV v)→Inv8 (i+vs.length) (rdoAll vs r) (doAll vs s)
 | [],i,r,s,h,_=>h
 | v::vs,i,r,s,h,hv=>by
  have:=inv_all vs (inv_do h (hv v List.mem_cons_self)) fun x hx=>hv x (List.mem_cons_of_mem _ hx)
  rw [List.length_cons,show i+(vs.length+1)=i+1+vs.length by omega]
  exact this
theorem failW_zero (s:W8):failW 0 s=s:=by
 unfold failW
 split
 ·rename_i h;rw [← h]
 ·rfl
theorem open_ok {t:Int} {s:W8} (hk:s.k=0) (ht:madeM t=true) (hl:s.fr.length<16):openW t s=⟨(t,[])::s.fr,s.d,0⟩:=by
 grind [openW]
theorem put_ok {t:Int} {b:List UInt8} {s:W8} (hk:s.k=0) (ht:knownM t=true) (hb:b.length≤65530):putW t b 0 s=addW (putL t b) s:=by
 grind [putW,failW_zero,putE]
theorem close_ok {t:Int} {ls:List (List UInt8)} {fr:List (Int×List (List UInt8))} {d:List UInt8} (ht:knownM t=true) (h9:t≠49) (hb:ls.flatten.length≤65530):closeV ⟨(t,ls)::fr,d,0⟩=addW (putL t ls.flatten) ⟨fr,d,0⟩:=by
 have hf:bodyF (t,ls)=ls.flatten:=by unfold bodyF;rw [if_neg h9]
 show putW t (bodyF (t,ls)) 0 ⟨fr,d,0⟩=_
 rw [hf,put_ok rfl ht hb]
def elB (x:Int×List UInt8):List UInt8:=putL x.1 x.2
structure Lev (d:Nat) (x:Int×List UInt8):Prop where
 known:knownM x.1=true
 len:x.2.length≤65530
 wh:∀ lv,d≤lv→(wholeM lv x.1.toNat x.2).2=0
theorem Lev.mono {d e:Nat} {x:Int×List UInt8} (h:Lev d x) (hd:d≤e):Lev e x:=⟨h.known,h.len,fun lv hl=>h.wh lv (by omega)⟩
theorem elB_pos (x:Int×List UInt8):0<(elB x).length:=by unfold elB putL;simp
theorem nowL_snoc (ls:List (List UInt8)) (x:List UInt8):nowL (ls++[x])=x:=by unfold nowL;simp
theorem set_snoc (ls:List (List UInt8)) (x y:List UInt8):(ls++[x]).set ((ls++[x]).length-1) y=ls++[y]:=by simp
theorem nextR_fwd (ls:List (List UInt8)) {t:Int} {b:List UInt8} (r:List UInt8) (hk:knownM t=true) (hb:b.length≤65530):∃ tg raw,nextR t (ls++[putL t b++r]) 0=⟨ls++[r],0,tg,b,raw,true⟩:=by
 have hn:=next_put (r:=r) hk hb
 have h0:=(known_bd hk).1
 unfold nextR
 rw [nowL_snoc,hn,set_snoc,if_neg (by decide),if_neg (by simp),if_neg (by grind)]
 exact ⟨_,_,rfl⟩
theorem nextR_back {ls:List (List UInt8)} {x:List UInt8} {t:Int} {k:Nat} (ht:t≠0) (h:(nextR t (ls++[x]) k).k=0):k=0∧knownM t=true∧∃ b r tg raw,x=putL t b++r∧b.length≤65530∧nextR t (ls++[x]) k=⟨ls++[r],0,tg,b,raw,true⟩:=by
 grind [nextR_canon,nowL_snoc,set_snoc,nextR]
theorem enter_fwd (ls:List (List UInt8)) {t:Int} {b:List UInt8} (r:List UInt8) (hm:madeM t=true) (hb:b.length≤65530):enterL t (ls++[putL t b++r]) 0=ls++[r]++[b]∧(enterR t (ls++[putL t b++r]) 0).k=0∧(enterR t (ls++[putL t b++r]) 0).is=true:=by
 obtain ⟨tg,raw,hN⟩:=nextR_fwd ls r (made_known hm) hb
 grind [enterR,enterL]
theorem enter_back {ls:List (List UInt8)} {x:List UInt8} {t:Int} {k:Nat} (ht:t≠0) (h:(enterR t (ls++[x]) k).k=0):k=0∧∃ b r,x=putL t b++r∧b.length≤65530∧enterL t (ls++[x]) k=ls++[r]++[b]∧(enterR t (ls++[x]) k).is=true:=by
 have hc:k=0∧enterR t (ls++[x]) k=nextR t (ls++[x]) k:=by
  unfold enterR at h ⊢
  by_cases hc:moreM (ls++[x]) k=true∧madeM t=false
  ·rw [if_pos hc] at h
   exact absurd (nextR_back ht h).1 (by decide)
  ·rw [if_neg hc] at h ⊢
   exact ⟨(nextR_back ht h).1,rfl⟩
 obtain ⟨hk,hE⟩:=hc
 rw [hE] at h
 obtain ⟨_,_,b,r,tg,raw,h1,h2,h3⟩:=nextR_back ht h
 grind [enterL]
theorem read_enter (a:AA) (ha:a.kind=1) (l:List (List UInt8)) (k:Nat):(readR a l k).l=enterL a.tag l k∧(readR a l k).k=(enterR a.tag l k).k:=by grind [readR]
theorem read_leave (a:AA) (ha:a.kind=2) (l:List (List UInt8)) (k:Nat):(readR a l k).l=leaveL l k∧(readR a l k).k=leaveK l k:=by grind [readR]
theorem leave_fwd {ls:List (List UInt8)} (h:0<ls.length):leaveL (ls++[[]]) 0=ls∧leaveK (ls++[[]]) 0=0:=by
 have hk:leaveK (ls++[[]]) 0=0:=by
  unfold leaveK
  rw [if_neg (by decide),if_neg (by grind),nowL_snoc,if_neg (by decide)]
 simp_all [leaveL]
theorem leave_back {ls:List (List UInt8)} {x:List UInt8} {k:Nat} (h:leaveK (ls++[x]) k=0):k=0∧x=[]∧0<ls.length∧leaveL (ls++[x]) k=ls:=by
 have h0:=h
 unfold leaveK at h
 by_cases h1:k≠0
 ·simp_all
 ·rw [if_neg h1] at h
  by_cases h2:(ls++[x]).length=1
  ·simp_all
  ·rw [if_neg h2,nowL_snoc] at h
   by_cases h3:0<x.length
   ·simp_all
   ·refine ⟨by omega,List.eq_nil_of_length_eq_zero (by omega),by grind,?_⟩
    simp_all [leaveL]
theorem read_fwd (a:AA) (ls:List (List UInt8)) {b:List UInt8} (r:List UInt8) (ha:3≤a.kind∧a.kind≤10) (hb:b.length≤65530) (h:(saidM a b).2=0):readR a (ls++[putL (tagA a) b++r]) 0=⟨ls++[r],0,(saidM a b).1⟩:=by
 have hk:knownM (tagA a)=true:=by
  unfold tagA
  repeat' split
  all_goals decide
 obtain ⟨tg,raw,hN⟩:=nextR_fwd ls r hk hb
 grind [readR,readV,valK]
theorem read_back {a:AA} {ls:List (List UInt8)} {x:List UInt8} {k:Nat} (ha:3≤a.kind∧a.kind≤10) (h:(readR a (ls++[x]) k).k=0):k=0∧∃ b r,x=putL (tagA a) b++r∧b.length≤65530∧(saidM a b).2=0∧readR a (ls++[x]) k=⟨ls++[r],0,(saidM a b).1⟩:=by
 have ht:tagA a≠0:=by
  unfold tagA
  repeat' split
  all_goals decide
 have e:readR a (ls++[x]) k=readV (tagA a) (saidM a) (ls++[x]) k:=by unfold readR;rw [if_neg (by omega),if_neg (by omega),if_neg (by omega)]
 have hn:(nextR (tagA a) (ls++[x]) k).k=0:=by
  rw [e] at h
  unfold readV valK at h
  dsimp only at h
  by_cases hi:(nextR (tagA a) (ls++[x]) k).is=true
  ·grind [next_mu]
  ·simp_all
 obtain ⟨h1,h2,b,r,tg,raw,h3,h4,h5⟩:=nextR_back ht hn
 grind [readV,valK]
end
section
open Go.RowKit Cal
structure StepFB {α:Type} (sp:StepR α) (enc:α→List UInt8) (good:α→Prop):Prop where
 fwd:∀ (ls:List (List UInt8)) a r,good a→sp (ls++[enc a++r]) 0=((ls++[r],0),a)
 back:∀ (ls:List (List UInt8)) x k,(sp (ls++[x]) k).1.2=0→k=0∧∃ a r,good a∧x=enc a++r∧sp (ls++[x]) k=((ls++[r],0),a)
 pos:∀ a,good a→0<(enc a).length
section
variable {α:Type} {sp:StepR α} {enc:α→List UInt8} {good:α→Prop}
theorem st_fwd (h:StepFB sp enc good) (ls:List (List UInt8)):∀ (xs:List α) (j:Nat),(∀ a ∈ xs,good a)→j≤xs.length→stG sp (ls++[(xs.map enc).flatten]) 0 j=((ls++[((xs.drop j).map enc).flatten],0),xs.take j)
 | xs,0,_,_=>by simp [stG]
 | xs,j+1,hg,hj=>by
  have ih:=st_fwd h ls xs j hg (by omega)
  have e:((xs.drop j).map enc).flatten=enc xs[j]++((xs.drop (j+1)).map enc).flatten:=by
   rw [List.drop_eq_getElem_cons (show j<xs.length by omega),List.map_cons,List.flatten_cons]
  have h2:=h.fwd ls xs[j] ((xs.drop (j+1)).map enc).flatten (hg _ (List.getElem_mem _))
  unfold stG
  rw [ih]
  dsimp only
  rw [e,h2]
  dsimp only
  rw [← List.take_succ_eq_append_getElem (show j<xs.length by omega)]
theorem row_fwd (ok:StepOk sp) (h:StepFB sp enc good) {tag most:Int} (ls:List (List UInt8)) {xs:List α} (r:List UInt8) (hm:madeM tag=true) (hg:∀ a ∈ xs,good a) (hl:(xs.length:Int)≤most) (hb:((xs.map enc).flatten).length≤65530) :
  endG sp (enterL tag (ls++[putL tag (xs.map enc).flatten++r]) 0) (enterR tag (ls++[putL tag (xs.map enc).flatten++r]) 0).k most=(ls++[r],0) ∧
  (stG sp (enterL tag (ls++[putL tag (xs.map enc).flatten++r]) 0) (enterR tag (ls++[putL tag (xs.map enc).flatten++r]) 0).k (jG sp (enterL tag (ls++[putL tag (xs.map enc).flatten++r]) 0) (enterR tag (ls++[putL tag (xs.map enc).flatten++r]) 0).k most)).2=xs:=by
 obtain ⟨e1,e2,e3⟩:=enter_fwd ls r hm hb
 rw [e1,e2]
 have hst:=fun j hj=>st_fwd h (ls++[r]) xs j hg hj
 have hJ:jG sp (ls++[r]++[(xs.map enc).flatten]) 0 most=xs.length:=by
  refine jG_one ok (by simp) (fun i hi=>?_) ?_
  ·unfold goB
   rw [hst i (by omega)]
   dsimp only
   unfold moreM
   rw [nowL_snoc]
   have hd:((xs.drop i).map enc).flatten=enc xs[i]++((xs.drop (i+1)).map enc).flatten:=by
    rw [List.drop_eq_getElem_cons (show i<xs.length by omega),List.map_cons,List.flatten_cons]
   have hp:=h.pos xs[i] (hg _ (List.getElem_mem _))
   grind
  ·grind [goB,moreM,nowL_snoc]
 grind [leave_fwd,endG,moreM,nowL_snoc]
theorem st_back (h:StepFB sp enc good) {most:Int} {k0:Nat} (ls:List (List UInt8)) (x:List UInt8):∀ j,(∀ i,i<j→goB sp (ls++[x]) k0 most i=true)→(stG sp (ls++[x]) k0 j).1.2=0→∃ y,(stG sp (ls++[x]) k0 j).1.1=ls++[y]∧x=((stG sp (ls++[x]) k0 j).2.map enc).flatten++y∧∀ a ∈ (stG sp (ls++[x]) k0 j).2,good a
 | 0,_,hk=>⟨x,rfl,rfl,fun a ha=>by cases ha⟩
 | j+1,hgo,hk=>by
  have hg:=hgo j (by omega)
  unfold goB at hg
  rw [Bool.and_eq_true] at hg
  have hkj:=(more_pos hg.1).1
  obtain ⟨y,h1,h2,h3⟩:=st_back h (most:=most) ls x j (fun i hi=>hgo i (by omega)) hkj
  have hk':(sp (stG sp (ls++[x]) k0 j).1.1 (stG sp (ls++[x]) k0 j).1.2).1.2=0:=hk
  rw [h1] at hk'
  obtain ⟨_,a,r,h4,h5,h6⟩:=h.back ls y _ hk'
  refine ⟨r,?_,?_,?_⟩
  ·grind [stG]
  ·grind [stG]
  grind [stG]
theorem row_back (ok:StepOk sp) (h:StepFB sp enc good) {tag most:Int} {k:Nat} (ls:List (List UInt8)) (x:List UInt8) (ht:tag≠0) (he:(endG sp (enterL tag (ls++[x]) k) (enterR tag (ls++[x]) k).k most).2=0) :
  k=0∧∃ xs r,(∀ a ∈ xs,good a)∧(xs=[]∨(xs.length:Int)≤most)∧((xs.map enc).flatten).length≤65530∧x=putL tag (xs.map enc).flatten++r∧endG sp (enterL tag (ls++[x]) k) (enterR tag (ls++[x]) k).k most=(ls++[r],0) ∧
   (stG sp (enterL tag (ls++[x]) k) (enterR tag (ls++[x]) k).k (jG sp (enterL tag (ls++[x]) k) (enterR tag (ls++[x]) k).k most)).2=xs:=by
 have hlen:0<(enterL tag (ls++[x]) k).length:=by
  obtain ⟨_,_,_,e4,e5,_⟩:=enter_mu (t:=tag) (l:=ls++[x]) (k:=k) (by simp)
  by_cases h0:(enterR tag (ls++[x]) k).k=0
  ·rw [e4 h0];omega
  ·rw [e5 h0];simp
 obtain ⟨hgo,hstop⟩:=jG_stop (k0:=(enterR tag (ls++[x]) k).k) (most:=most) ok hlen
 have hbd:=stG_bd (k0:=(enterR tag (ls++[x]) k).k) (most:=most) ok hlen
 have hE:endG sp (enterL tag (ls++[x]) k) (enterR tag (ls++[x]) k).k most=(leaveL (stG sp (enterL tag (ls++[x]) k) (enterR tag (ls++[x]) k).k (jG sp (enterL tag (ls++[x]) k) (enterR tag (ls++[x]) k).k most)).1.1 (stG sp (enterL tag (ls++[x]) k) (enterR tag (ls++[x]) k).k (jG sp (enterL tag (ls++[x]) k) (enterR tag (ls++[x]) k).k most)).1.2,leaveK (stG sp (enterL tag (ls++[x]) k) (enterR tag (ls++[x]) k).k (jG sp (enterL tag (ls++[x]) k) (enterR tag (ls++[x]) k).k most)).1.1 (stG sp (enterL tag (ls++[x]) k) (enterR tag (ls++[x]) k).k (jG sp (enterL tag (ls++[x]) k) (enterR tag (ls++[x]) k).k most)).1.2):=by
  unfold endG at he ⊢
  dsimp only at he ⊢
  split at he
  ·grind [leaveK]
  ·simp_all
 rw [hE] at he
 dsimp only at he
 have hkJ:(stG sp (enterL tag (ls++[x]) k) (enterR tag (ls++[x]) k).k (jG sp (enterL tag (ls++[x]) k) (enterR tag (ls++[x]) k).k most)).1.2=0:=by
  refine Nat.eq_zero_of_not_pos fun hp=>?_
  have hp':(stG sp (enterL tag (ls++[x]) k) (enterR tag (ls++[x]) k).k (jG sp (enterL tag (ls++[x]) k) (enterR tag (ls++[x]) k).k most)).1.2≠0:=by omega
  unfold leaveK at he
  rw [if_pos hp'] at he
  exact hp' he
 have hk0:(enterR tag (ls++[x]) k).k=0:=by
  rcases Nat.eq_zero_or_pos (jG sp (enterL tag (ls++[x]) k) (enterR tag (ls++[x]) k).k most) with hz|hz
  ·rw [hz] at hkJ;exact hkJ
  ·have hg:=hgo 0 hz
   unfold goB at hg
   rw [Bool.and_eq_true] at hg
   exact (more_pos hg.1).1
 obtain ⟨hk,b,r,h1,h2,h3,h4⟩:=enter_back ht hk0
 have hJlen:jG sp (enterL tag (ls++[x]) k) (enterR tag (ls++[x]) k).k most=0∨((jG sp (enterL tag (ls++[x]) k) (enterR tag (ls++[x]) k).k most:Nat):Int)≤most:=by
  rcases Nat.eq_zero_or_pos (jG sp (enterL tag (ls++[x]) k) (enterR tag (ls++[x]) k).k most) with hz|hz
  ·exact .inl hz
  ·have hg:=hgo (jG sp (enterL tag (ls++[x]) k) (enterR tag (ls++[x]) k).k most-1) (by omega)
   grind [goB]
 rw [hE]
 rw [hk0,h3] at hgo hkJ he hJlen ⊢
 obtain ⟨y,h5,h6,h7⟩:=st_back h (ls++[r]) b _ hgo hkJ
 have hso:=stG_out sp (ls++[r]++[b]) 0 (jG sp (ls++[r]++[b]) 0 most)
 generalize jG sp (ls++[r]++[b]) 0 most=J at *
 grind [leave_back]
end
end
section
open Go.RowKit Cal
theorem fig_eq {n p:Int} {c:UInt8} (h:n / p % 10=(c.toNat:Int)-48) (h2:48≤(c.toNat:Int)):figc n p=c:=by
 grind [figc,UInt8.toNat_inj,UInt8.toNat_ofNat']
theorem moment_canon {b:List UInt8} (h:getE b=0):bodyL (ofM (getV b))=b∧inT (getV b):=by
 have hf:formP b:=by
  unfold getE at h
  by_cases hf:formP b
  ·exact hf
  ·simp_all
 have hr:RightP (getD6 b):=by
  unfold getE at h
  rw [if_pos hf] at h
  by_cases hr:RightP (getD6 b)
  ·exact hr
  ·simp_all
 have hv:getV b=secM (getD6 b):=by unfold getV;rw [if_pos ⟨hf,hr⟩]
 have hb:=sec_bd hr
 have ho:ofM (getV b)=getD6 b:=by
  unfold ofM
  rw [hv,if_pos hb,of_sec hr]
 rw [ho,hv]
 refine ⟨?_,hb⟩
 obtain ⟨hl,hz,hd⟩:=hf
 have key:∀ i,i<15→(bodyL (getD6 b)).getD i 0=b.getD i 0:=by
  have d0:=hd 0 (by decide);have d1:=hd 1 (by decide);have d2:=hd 2 (by decide);have d3:=hd 3 (by decide);have d4:=hd 4 (by decide);have d5:=hd 5 (by decide);have d6:=hd 6 (by decide)
  have d7:=hd 7 (by decide);have d8:=hd 8 (by decide);have d9:=hd 9 (by decide);have d10:=hd 10 (by decide);have d11:=hd 11 (by decide);have d12:=hd 12 (by decide);have d13:=hd 13 (by decide)
  unfold isDg at d0 d1 d2 d3 d4 d5 d6 d7 d8 d9 d10 d11 d12 d13
  have ey:(getD6 b).y=1000 * dg b 0+100 * dg b 1+10 * dg b 2+dg b 3:=by show 100 * (10 * dg b 0+dg b 1)+(10 * dg b 2+dg b 3)=_;omega
  have em:(getD6 b).m=10 * dg b 4+dg b 5:=rfl
  have ed:(getD6 b).d=10 * dg b 6+dg b 7:=rfl
  have eh:(getD6 b).h=10 * dg b 8+dg b 9:=rfl
  have ei:(getD6 b).mi=10 * dg b 10+dg b 11:=rfl
  have es:(getD6 b).s=10 * dg b 12+dg b 13:=rfl
  unfold dg at ey em ed eh ei es
  intro i hi
  rcases i with _|_|_|_|_|_|_|_|_|_|_|_|_|_|_|i
  ·exact fig_eq (n:=(getD6 b).y) (p:=1000) (c:=b.getD 0 0) (by omega) (by omega)
  ·exact fig_eq (n:=(getD6 b).y) (p:=100) (c:=b.getD 1 0) (by omega) (by omega)
  ·exact fig_eq (n:=(getD6 b).y) (p:=10) (c:=b.getD 2 0) (by omega) (by omega)
  ·exact fig_eq (n:=(getD6 b).y) (p:=1) (c:=b.getD 3 0) (by omega) (by omega)
  ·exact fig_eq (n:=(getD6 b).m) (p:=10) (c:=b.getD 4 0) (by omega) (by omega)
  ·exact fig_eq (n:=(getD6 b).m) (p:=1) (c:=b.getD 5 0) (by omega) (by omega)
  ·exact fig_eq (n:=(getD6 b).d) (p:=10) (c:=b.getD 6 0) (by omega) (by omega)
  ·exact fig_eq (n:=(getD6 b).d) (p:=1) (c:=b.getD 7 0) (by omega) (by omega)
  ·exact fig_eq (n:=(getD6 b).h) (p:=10) (c:=b.getD 8 0) (by omega) (by omega)
  ·exact fig_eq (n:=(getD6 b).h) (p:=1) (c:=b.getD 9 0) (by omega) (by omega)
  ·exact fig_eq (n:=(getD6 b).mi) (p:=10) (c:=b.getD 10 0) (by omega) (by omega)
  ·exact fig_eq (n:=(getD6 b).mi) (p:=1) (c:=b.getD 11 0) (by omega) (by omega)
  ·exact fig_eq (n:=(getD6 b).s) (p:=10) (c:=b.getD 12 0) (by omega) (by omega)
  ·exact fig_eq (n:=(getD6 b).s) (p:=1) (c:=b.getD 13 0) (by omega) (by omega)
  ·exact (UInt8.toNat_inj.1 (show (90:UInt8).toNat=(b.getD 14 0).toNat by grind))
  ·omega
 refine List.ext_getElem (by rw [hl];rfl) fun i h1 h2=>?_
 have:=key i (by omega)
 grind
theorem bodyV_bd {v:VV} (hn:-9223372036854775808≤v.n∧v.n≤9223372036854775807) (ht:v.t.length≤300):(bodyV v).2.1.length≤max 300 v.b.length:=by
 by_cases h6:v.kind=6
 ·grind [bodyV]
 ·have hs:SmallV ⟨v.kind,v.n,v.is,[],v.t⟩:=⟨hn,by simp,ht⟩
  have:=bodyV_small hs
  grind [bodyV]
theorem inv_doU {i:Nat} {r:R8} {s:W8} (h:Inv8 i r s) {v:VV} {u:Nat} (hn:-9223372036854775808≤v.n∧v.n≤9223372036854775807) (ht:v.t.length≤300) (hk:3≤v.kind∧v.kind≤10) (hu:1≤u) (hb:v.b.length+10≤400 * u):Inv8 (i+u) (rdoS v r) (doW v s):=by
 have hs:=same_do h.same v
 have hw:wtW (doW v s)≤wtW s+400 * u:=by
  have e:doW v s=putW (bodyV v).1 (bodyV v).2.1 (bodyV v).2.2 s:=by
   unfold doW
   rw [if_neg (by omega),if_neg (by omega),if_neg (by omega)]
  have h1:=wt_put (bodyV v).1 (bodyV v).2.1 (bodyV v).2.2 s
  have h2:=bodyV_bd hn ht
  rw [e]
  omega
 have hg:=grown_do v r
 have h0:=h.w
 have hl:(rdoS v r).tags.length≤16:=by rw [hs.tags];simpa using hs.lim
 refine ⟨hs,by omega,fun x hx=>?_,?_⟩
 ·rcases hg.2 x hx with h1|h1|⟨y,b,h1,h2,h3⟩
  ·have:=h.rows x h1;omega
  ·subst h1;simp [sumL]
  ·have ha:=active_sum hs
   rw [← h3] at ha
   refine ⟨?_,by omega⟩
   rw [h2,List.length_append,List.length_singleton]
   rcases h1 with h1|h1
   ·have:=h.rows y h1;omega
   ·subst h1;simp;omega
 ·have:=hg.1
  have:=h.n
  omega
end
section
open Go.RowKit Cal
def elemV (v:VV):List UInt8:=putL (bodyV v).1 (bodyV v).2.1
def goodV (v:VV):Bool:=(decide (3≤v.kind) && decide (v.kind≤10)) && decide ((bodyV v).2.2=0)
def rowsW (vs:List VV):List (List UInt8):=(vs.filter goodV).map elemV
theorem bodyV_kind {v:VV} (h:3≤v.kind∧v.kind≤10):(v.kind=3∧bodyV v=(2,putN v.n,0))∨(v.kind=4∧bodyV v=(10,putN v.n,0))∨(v.kind=5∧bodyV v=(1,[if v.is then 255 else 0],0))∨(v.kind=6∧bodyV v=(4,v.b,0)) ∨
  (v.kind=7∧bodyV v=(12,if askedM v.t v.n=0 then v.t else [],askedM v.t v.n))∨(v.kind=8∧bodyV v=(6,putM v.t,(parseM v.t).2))∨(v.kind=9∧bodyV v=(24,if inT v.n then bodyL (ofM v.n) else [],ofE v.n))∨(v.kind=10∧bodyV v=(3,bitsL v.n,bitsE v.n)):=by
 obtain h|h|h|h|h|h|h|h:v.kind=3∨v.kind=4∨v.kind=5∨v.kind=6∨v.kind=7∨v.kind=8∨v.kind=9∨v.kind=10:=by omega
 ·grind [bodyV]
 ·grind [bodyV]
 ·grind [bodyV]
 ·grind [bodyV]
 ·grind [bodyV]
 ·simp_all [bodyV]
 ·simp_all [bodyV]
 simp_all [bodyV]
theorem tagV {v:VV} (h:3≤v.kind∧v.kind≤10):knownM (bodyV v).1=true∧madeM (bodyV v).1=false∧(bodyV v).1≠0:=by
 obtain ⟨_,e⟩|⟨_,e⟩|⟨_,e⟩|⟨_,e⟩|⟨_,e⟩|⟨_,e⟩|⟨_,e⟩|⟨_,e⟩:=bodyV_kind h <;> (rw [e];dsimp only;decide)
theorem doW_put {v:VV} (h:3≤v.kind∧v.kind≤10) (s:W8):doW v s=putW (bodyV v).1 (bodyV v).2.1 (bodyV v).2.2 s:=by
 grind [doW]
def listB (vs:List VV):List UInt8:=putL 48 (rowsW vs).flatten
def askV (v:VV):AA:=⟨v.kind,0,-9223372036854775808,9223372036854775807⟩
def sameV (v x:VV):Prop:=(v.kind=5→x.is=v.is)∧(v.kind=6→x.b=v.b)∧(v.kind=7∨v.kind=8→x.t=v.t)∧(v.kind=3∨v.kind=4∨v.kind=9∨v.kind=10→x.n=v.n)
end
section
variable {gs:List Nat} [OkG gs]

def lsC (l:List (List UInt8)):CV:=.rs 1 l.length fun i _=>strC (l.getD i [])
def subjC (s:S3):CV:=.agg 3 (fl [.c (.int .i64 s.1),strC s.2.1,strC s.2.2])
def wF (j:Nat):CV:=strC (wordL.getD j [])
def idxT (l:List (List UInt8)) (x:List UInt8):Int:=if x ∈ l then (l.idxOf x:Nat) else -1
end
section
variable {gs:List Nat} [OkG gs]

theorem CEnt.rsL {k n m:Nat} {f g:Nat→Nat→CV} (h:n=m) (hf:f=g):CEnt (.rs k n f) (.rs k m g):=by subst h hf;exact cZ
def partE (p:P2) (j:Nat):CV:=if j=0 then strC p.1 else strC p.2
def partF:List P2→Nat→CV:=rowF 2 partE ([],[])
def partsC (l:List P2):CV:=.rs 2 l.length fun i j=>partE (l.getD i ([],[])) j
end
section
variable {gs:List Nat} [OkG gs]

def sF (s:S3):Nat→CV:=fl [.c (.int .i64 s.1),strC s.2.1,strC s.2.2]
end
section
variable {gs:List Nat} [OkG gs]
end
section
variable {gs:List Nat} [OkG gs]

theorem ofP_bd (l:List P2):(ofP l).2=0∨((ofP l).2=9∧(ofP l).1=zeroS):=by
 unfold ofP;split
 ·exact .inl rfl
 ·exact .inr ⟨rfl,rfl⟩
end
end Am
end Go.Proofs.YtnijncmifjnifaaGreatDoor
