/- What the law leans on, part 9: W08c, W08d, W08e, W08f, SsF, SsJ, W05f, W05g, W05h, W06c, P06c, W06d, W06e, W08g, W08h, W08p, P08r, P08c, P08d, P08h, P08i, P08m, P08f -/
import Derived.Test.YtghminnpfnkbjaaGreatDoorM8RequestRead

set_option maxRecDepth 100000
set_option maxHeartbeats 8000000
namespace Go.Proofs.YtghminnpfnkbjaaGreatDoor
set_option linter.unusedVariables false
namespace Am
open Go.RowKit
section
variable {gs:List Nat} [gQ gs]

def ae (tag:Int) (l:YD) (k:Nat):NR :=
 ab tag l (if bN l k=true∧bQ tag=false then 5 else k)
def ah (tag:Int) (l:YD) (k:Nat):YD:=if (ae tag l k).is=true then (ae tag l k).l++[(ae tag l k).body] else (ae tag l k).l
theorem px (n:Nat) (l:YD) (k:Nat) (tag:Int) (hl:0<l.length∧l.length≤1000000) (hb:(aB l).length≤10000000):AC gs Tryz.prog 57 [el n l k] [.op 0 (some n) 0,.c (.int .i64 tag)]
  (fun r H'=>r=.c (.bool (ae tag l k).is)∧H'=[el n (ah tag l k) (ae tag l k).k]):=by
 have hnl:∀ k,0<(ab tag l k).l.length∧(ab tag l k).l.length≤1000000:=fun k=>by
  unfold ab
  split
  ·exact hl
  ·split
   ·exact hl
   ·split
    ·exact hl
    ·simp only [ZW];exact hl
 refine aj 48 Tryz.func57 fun al w0 F0 St0=>?_;refine U 7516 ?_;refine bv 0 rfl fun gl=>?_;refine U 501004016 ?_;refine aI (cE n k l 0 1 rfl rfl rfl (cO rfl) I (YG _) (fun _ _=>I)) ?_;refine U 1500000 ?_;refine aK 13 (fun g204=>?_) fun g204=>?_
 rotate_left
 ·refine U 810300550044415004444 ?_
  first
   |(refine jE (cE n 5 l 0 2 rfl rfl rfl (cO rfl) I (YG _) (fun _ _=>I)) ?_;refine jE (cn (H':=[el n l 5]) [0] jD rfl) ?_;have hE:ae tag l k=ab tag l 5:=by unfold ae;rw [YF (by simp_all [bN,bQ])])
   |(refine jE (cn (H':=[el n l k]) [0] jD rfl) ?_;have hE:ae tag l k=ab tag l k:=by unfold ae;rw [YE (by simp_all [bN,bQ])])
  refine U 116 ?_
  refine aq (aQ 0 (kp n l _ tag hl hb) ?_)
  refine U 9009009001 ?_
  refine au (cl (n:=2) gy rfl fun p2=>?_)
  refine aq (aA 2 ?_)
  refine U 7511 ?_
  rw [← hE]
  have hel:0<(ae tag l k).l.length∧(ae tag l k).l.length≤1000000:=by rw [hE];exact hnl _
  refine U 516 ?_;refine ap (fun h208=>?_) fun h208=>?_
  rotate_left
  ·refine U 810 ?_
   first
    |(refine jE (cE n (ae tag l k).k ((ae tag l k).l++[(ae tag l k).body]) 0 2 rfl rfl rfl (cO (by simp)) I (by simp) (fun _ _=>I)) ?_;have hL:ah tag l k=(ae tag l k).l++[(ae tag l k).body]:=by unfold ah;rw [YF (by simpa using h208)])
    | have hL:ah tag l k=(ae tag l k).l:=by unfold ah;rw [YE (by simpa using h208)]
   refine U 70005116 ?_
   rw [hL]
   exact aJ (.inl rfl) rfl (av rfl (ak rfl)) I
  refine jE (freeze 1 rfl) ?_;refine jE (lD 5 (m:=2) rfl rfl jD) ?_
  dsimp only [List.set_cons_zero,List.set_cons_succ,List.cons_append,List.nil_append,List.length_cons,List.length_nil,Nat.zero_add,Nat.reduceAdd]
  refine bv 0 rfl fun gl3=>?_;refine lL (.rd 0 (.rd 1 (.rd 2 (.rd 3 (.rd 4 (.rd 5 (.rd 6 (.one 7 (.one 8 (.rd 9 (.rd 10 (.one 11 .done)))))))))))) ?_;refine U 6000000050000000100000009000000400000400000 ?_;refine iX kC ?_
  refine GL (aY 1 1 eK fun p3=>?_)
  refine lK (aF (en) (l2:=[(ae tag l k).body]) rfl rfl rfl rfl O (fun _ _=>I) (aW rfl (.inl rfl) jD) rfl (fun j hj=>by rcases j with _|j <;> first|exact I|(exfalso;simp at hj <;> omega)) Tryz.underlying138 jf nC eK ol rfl (by (simp;omega)) (by (simp;omega)) (bC rfl rfl) rfl rfl rfl (fun p4=>?_))
  refine U 100000009000000 ?_
  refine lK (aA 1 ?_)
  refine U 8700000 ?_
  first
   |(refine jE (cE n (ae tag l k).k ((ae tag l k).l++[(ae tag l k).body]) 0 2 rfl rfl rfl (cO (by simp)) I (by simp) (fun _ _=>I)) ?_;have hL:ah tag l k=(ae tag l k).l++[(ae tag l k).body]:=by unfold ah;rw [YF (by simpa using h208)])
   | have hL:ah tag l k=(ae tag l k).l:=by unfold ah;rw [YE (by simpa using h208)]
  refine U 70005116 ?_
  rw [hL]
  exact aJ (.inl rfl) rfl (av rfl (ak rfl)) I
 refine U 1 ?_
 refine aq (aQ 0 (wL n l k hl) ?_)
 refine U 110000000023 ?_;refine aK 19 (fun g204_2=>?_) fun g204_2=>?_
 rotate_left
 ·refine U 8103005500444 ?_
  first
   |(refine jE (cE n 5 l 0 2 rfl rfl rfl (cO rfl) I (YG _) (fun _ _=>I)) ?_;refine jE (cn (H':=[el n l 5]) [0] jD rfl) ?_;have hE:ae tag l k=ab tag l 5:=by unfold ae;rw [YF (by simp_all [bN,bQ])])
   |(refine jE (cn (H':=[el n l k]) [0] jD rfl) ?_;have hE:ae tag l k=ab tag l k:=by unfold ae;rw [YE (by simp_all [bN,bQ])])
  refine U 116 ?_
  refine aq (aQ 0 (kp n l _ tag hl hb) ?_)
  refine U 9009009001 ?_
  refine au (cl (n:=2) gy rfl fun p3=>?_)
  refine aq (aA 2 ?_)
  refine U 7511 ?_
  rw [← hE]
  have hel:0<(ae tag l k).l.length∧(ae tag l k).l.length≤1000000:=by rw [hE];exact hnl _
  refine U 516 ?_;refine ap (fun h208=>?_) fun h208=>?_
  rotate_left
  ·refine U 810 ?_
   first
    |(refine jE (cE n (ae tag l k).k ((ae tag l k).l++[(ae tag l k).body]) 0 2 rfl rfl rfl (cO (by simp)) I (by simp) (fun _ _=>I)) ?_;have hL:ah tag l k=(ae tag l k).l++[(ae tag l k).body]:=by unfold ah;rw [YF (by simpa using h208)])
    | have hL:ah tag l k=(ae tag l k).l:=by unfold ah;rw [YE (by simpa using h208)]
   refine U 70005116 ?_
   rw [hL]
   exact aJ (.inl rfl) rfl (av rfl (ak rfl)) I
  refine jE (freeze 1 rfl) ?_;refine jE (lD 5 (m:=2) rfl rfl jD) ?_
  dsimp only [List.set_cons_zero,List.set_cons_succ,List.cons_append,List.nil_append,List.length_cons,List.length_nil,Nat.zero_add,Nat.reduceAdd]
  refine bv 0 rfl fun gl3=>?_;refine lL (.rd 0 (.rd 1 (.rd 2 (.rd 3 (.rd 4 (.rd 5 (.rd 6 (.one 7 (.one 8 (.rd 9 (.rd 10 (.one 11 .done)))))))))))) ?_;refine U 6000000050000000100000009000000400000400000 ?_;refine iX kC ?_
  refine GL (aY 1 1 eK fun p4=>?_)
  refine lK (aF (en) (l2:=[(ae tag l k).body]) rfl rfl rfl rfl O (fun _ _=>I) (aW rfl (.inl rfl) jD) rfl (fun j hj=>by rcases j with _|j <;> first|exact I|(exfalso;simp at hj <;> omega)) Tryz.underlying138 jf nC eK ol rfl (by (simp;omega)) (by (simp;omega)) (bC rfl rfl) rfl rfl rfl (fun p5=>?_))
  refine U 100000009000000 ?_
  refine lK (aA 1 ?_)
  refine U 8700000 ?_
  first
   |(refine jE (cE n (ae tag l k).k ((ae tag l k).l++[(ae tag l k).body]) 0 2 rfl rfl rfl (cO (by simp)) I (by simp) (fun _ _=>I)) ?_;have hL:ah tag l k=(ae tag l k).l++[(ae tag l k).body]:=by unfold ah;rw [YF (by simpa using h208)])
   | have hL:ah tag l k=(ae tag l k).l:=by unfold ah;rw [YE (by simpa using h208)]
  refine U 70005116 ?_
  rw [hL]
  exact aJ (.inl rfl) rfl (av rfl (ak rfl)) I
 refine U 1 ?_
 refine au (ar (vh _) ?_)
 refine U 510000000030 ?_;refine ap (fun h204=>?_) fun h204=>?_
 rotate_left
 ·refine U 810 ?_
  first
   |(refine jE (cE n 5 l 0 2 rfl rfl rfl (cO rfl) I (YG _) (fun _ _=>I)) ?_;refine jE (cn (H':=[el n l 5]) [0] jD rfl) ?_;have hE:ae tag l k=ab tag l 5:=by unfold ae;rw [YF (by simp_all [bN,bQ])])
   |(refine jE (cn (H':=[el n l k]) [0] jD rfl) ?_;have hE:ae tag l k=ab tag l k:=by unfold ae;rw [YE (by simp_all [bN,bQ])])
  refine U 116 ?_
  refine aq (aQ 0 (kp n l _ tag hl hb) ?_)
  refine U 9009009001 ?_
  refine au (cl (n:=2) gy rfl fun p3=>?_)
  refine aq (aA 2 ?_)
  refine U 7511 ?_
  rw [← hE]
  have hel:0<(ae tag l k).l.length∧(ae tag l k).l.length≤1000000:=by rw [hE];exact hnl _
  refine U 516 ?_;refine ap (fun h208=>?_) fun h208=>?_
  rotate_left
  ·refine U 810 ?_
   first
    |(refine jE (cE n (ae tag l k).k ((ae tag l k).l++[(ae tag l k).body]) 0 2 rfl rfl rfl (cO (by simp)) I (by simp) (fun _ _=>I)) ?_;have hL:ah tag l k=(ae tag l k).l++[(ae tag l k).body]:=by unfold ah;rw [YF (by simpa using h208)])
    | have hL:ah tag l k=(ae tag l k).l:=by unfold ah;rw [YE (by simpa using h208)]
   refine U 70005116 ?_
   rw [hL]
   exact aJ (.inl rfl) rfl (av rfl (ak rfl)) I
  refine jE (freeze 1 rfl) ?_;refine jE (lD 5 (m:=2) rfl rfl jD) ?_
  dsimp only [List.set_cons_zero,List.set_cons_succ,List.cons_append,List.nil_append,List.length_cons,List.length_nil,Nat.zero_add,Nat.reduceAdd]
  refine bv 0 rfl fun gl3=>?_;refine lL (.rd 0 (.rd 1 (.rd 2 (.rd 3 (.rd 4 (.rd 5 (.rd 6 (.one 7 (.one 8 (.rd 9 (.rd 10 (.one 11 .done)))))))))))) ?_;refine U 6000000050000000100000009000000400000400000 ?_;refine iX kC ?_
  refine GL (aY 1 1 eK fun p4=>?_)
  refine lK (aF (en) (l2:=[(ae tag l k).body]) rfl rfl rfl rfl O (fun _ _=>I) (aW rfl (.inl rfl) jD) rfl (fun j hj=>by rcases j with _|j <;> first|exact I|(exfalso;simp at hj <;> omega)) Tryz.underlying138 jf nC eK ol rfl (by (simp;omega)) (by (simp;omega)) (bC rfl rfl) rfl rfl rfl (fun p5=>?_))
  refine U 100000009000000 ?_
  refine lK (aA 1 ?_)
  refine U 8700000 ?_
  first
   |(refine jE (cE n (ae tag l k).k ((ae tag l k).l++[(ae tag l k).body]) 0 2 rfl rfl rfl (cO (by simp)) I (by simp) (fun _ _=>I)) ?_;have hL:ah tag l k=(ae tag l k).l++[(ae tag l k).body]:=by unfold ah;rw [YF (by simpa using h208)])
   | have hL:ah tag l k=(ae tag l k).l:=by unfold ah;rw [YE (by simpa using h208)]
  refine U 70005116 ?_
  rw [hL]
  exact aJ (.inl rfl) rfl (av rfl (ak rfl)) I
 refine bv 0 rfl fun gl2=>?_;refine U 1200 ?_;refine jq (cK 4) ?_;refine U 10040 ?_
 refine aq (bo 1 (fl [.os 2 gl2 0 l.length 1,.err 5]) ?_ ?_)
 ·exact oB
 refine U 85 ?_
 first
  |(refine jE (cE n 5 l 0 2 rfl rfl rfl (cO rfl) I (YG _) (fun _ _=>I)) ?_;refine jE (cn (H':=[el n l 5]) [0] jD rfl) ?_;have hE:ae tag l k=ab tag l 5:=by unfold ae;rw [YF (by simp_all [bN,bQ])])
  |(refine jE (cn (H':=[el n l k]) [0] jD rfl) ?_;have hE:ae tag l k=ab tag l k:=by unfold ae;rw [YE (by simp_all [bN,bQ])])
 refine U 116 ?_
 refine aq (aQ 0 (kp n l _ tag hl hb) ?_)
 refine U 9009009001 ?_
 refine au (cl (n:=2) gy rfl fun p3=>?_)
 refine aq (aA 2 ?_)
 refine U 7511 ?_
 rw [← hE]
 have hel:0<(ae tag l k).l.length∧(ae tag l k).l.length≤1000000:=by rw [hE];exact hnl _
 refine U 516 ?_;refine ap (fun h208=>?_) fun h208=>?_
 rotate_left
 ·refine U 810 ?_
  first
   |(refine jE (cE n (ae tag l k).k ((ae tag l k).l++[(ae tag l k).body]) 0 2 rfl rfl rfl (cO (by simp)) I (by simp) (fun _ _=>I)) ?_;have hL:ah tag l k=(ae tag l k).l++[(ae tag l k).body]:=by unfold ah;rw [YF (by simpa using h208)])
   | have hL:ah tag l k=(ae tag l k).l:=by unfold ah;rw [YE (by simpa using h208)]
  refine U 70005116 ?_
  rw [hL]
  exact aJ (.inl rfl) rfl (av rfl (ak rfl)) I
 refine jE (freeze 1 rfl) ?_;refine jE (lD 5 (m:=2) rfl rfl jD) ?_
 dsimp only [List.set_cons_zero,List.set_cons_succ,List.cons_append,List.nil_append,List.length_cons,List.length_nil,Nat.zero_add,Nat.reduceAdd]
 refine bv 0 rfl fun gl3=>?_;refine lL (.rd 0 (.rd 1 (.rd 2 (.rd 3 (.rd 4 (.rd 5 (.rd 6 (.one 7 (.one 8 (.rd 9 (.rd 10 (.one 11 .done)))))))))))) ?_;refine U 6000000050000000100000009000000400000400000 ?_;refine iX kC ?_
 refine GL (aY 1 1 eK fun p4=>?_)
 refine lK (aF (en) (l2:=[(ae tag l k).body]) rfl rfl rfl rfl O (fun _ _=>I) (aW rfl (.inl rfl) jD) rfl (fun j hj=>by rcases j with _|j <;> first|exact I|(exfalso;simp at hj <;> omega)) Tryz.underlying138 jf nC eK ol rfl (by (simp;omega)) (by (simp;omega)) (bC rfl rfl) rfl rfl rfl (fun p5=>?_))
 refine U 100000009000000 ?_
 refine lK (aA 1 ?_)
 refine U 8700000 ?_
 first
  |(refine jE (cE n (ae tag l k).k ((ae tag l k).l++[(ae tag l k).body]) 0 2 rfl rfl rfl (cO (by simp)) I (by simp) (fun _ _=>I)) ?_;have hL:ah tag l k=(ae tag l k).l++[(ae tag l k).body]:=by unfold ah;rw [YF (by simpa using h208)])
  | have hL:ah tag l k=(ae tag l k).l:=by unfold ah;rw [YE (by simpa using h208)]
 refine U 70005116 ?_
 rw [hL]
 exact aJ (.inl rfl) rfl (av rfl (ak rfl)) I
def aC (l:YD) (k:Nat):Nat:=if k≠0 then k else if l.length=1 then 24 else if 0<(aB l).length then 4 else 0
def bb (l:YD) (k:Nat):YD:=if aC l k=0 then l.take (l.length-1) else l
theorem Nf {l:YD} {m j:Nat} (h:j<m):aa (oA l j) (oA (l.take m) j):=by
 refine aa.of_eq ?_
 simp [oA,YH,h]
theorem lI (n:Nat) (l:YD) (k:Nat) (hl:0<l.length∧l.length≤1000000):AC gs Tryz.prog 65 [el n l k] [.op 0 (some n) 0]
  (fun r H'=>r=.c (.tuple #[])∧H'=[el n (bb l k) (aC l k)]):=by
 have stay:∀ {e},aC l k=e→e≠0→bb l k=l:=fun h h0=>by unfold bb;rw [h,YE h0]
 refine aj 45 Tryz.func65 fun al w0 F0 St0=>?_;refine bv 0 rfl fun gl=>?_;refine U 5150000050100401620519350904016 ?_;refine ap (fun h218=>?_) fun h218=>?_
 ·refine U 40010 ?_
  have e:aC l k=k:=by unfold aC;rw [jP]
  rw [stay e O,e]
  exact bO (gd:=fun z:Nat×Option Nat=>z.1) (E:=CH l k) (.inr rfl) _ (n,gl) [0,1] jD rfl (cM rfl) ⟨rfl,rfl⟩
 refine U 51216 ?_;refine ap (fun h219=>?_) fun h219=>?_
 ·refine U 1200 ?_;refine jq (cK 23) ?_;refine U 10040 ?_
  refine aq (bo 1 (fl [.os 1 gl 0 l.length 1,.err 24]) ?_ ?_)
  ·exact oB
  refine U 4005 ?_
  have e:aC l k=24:=by unfold aC;rw [jK,jP]
  rw [stay e O,e]
  exact bO (gd:=fun z:Nat×Option Nat=>z.1) (E:=CH l 24) (.inr rfl) _ (n,gl) [0,1] jD rfl (cM rfl) ⟨rfl,rfl⟩
 refine U 150904016 ?_;refine jq (dU (i:=(l.length-1)) (hz:=by omega)) ?_;refine U 512350 ?_;refine ap (fun h221=>?_) fun h221=>?_
 ·refine U 1200 ?_;refine jq (cK 3) ?_;refine U 10040 ?_
  refine aq (bo 1 (fl [.os 1 gl 0 l.length 1,.err 4]) ?_ ?_)
  ·exact oB
  refine U 4005 ?_
  have e:aC l k=4:=by unfold aC;rw [jK,jK,YF (by unfold aB;omega)]
  rw [stay e O,e]
  exact bO (gd:=fun z:Nat×Option Nat=>z.1) (E:=CH l 4) (.inr rfl) _ (n,gl) [0,1] jD rfl (cM rfl) ⟨rfl,rfl⟩
 refine U 150904011200 ?_;refine jq Fe ?_;refine U 9040 ?_
 have hk0:k=0:=by omega
 refine aI (cW 1 (l.length-1) (oA (l.take (l.length-1))) rfl O (fun j hj=>Nf hj)) ?_
 refine aq (bo 1 (fl [.os 1 gl 0 (l.length-1) 1,.err 0]) ?_ ?_)
 ·exact (fun j hj=>by rcases j with _|_|j <;> first|exact I|exact cO O|exact aa.err hk0)
 refine U 4005 ?_
 have e:aC l k=0:=by unfold aC;rw [jK,jK,YE (by unfold aB;omega)]
 have e2:bb l k=l.take (l.length-1):=by unfold bb;rw [YF e]
 have e3:(l.take (l.length-1)).length=l.length-1:=by rw [YS];omega
 rw [e2,e]
 exact bO (gd:=fun z:Nat×Option Nat=>z.1) (E:=CH (l.take (l.length-1)) 0) (.inr rfl) _ (n,gl) [0,1] jD (by unfold CH;rw [e3];rfl) (cM rfl) ⟨rfl,rfl⟩
def jk (l:YD) (k:Nat):Nat:=if k≠0 then k else if 1<l.length then 24 else if 0<(l.getD 0 []).length then 4 else 0
theorem DM (n:Nat) (l:YD) (k:Nat) (hl:0<l.length∧l.length≤1000000):AC gs Tryz.prog 66 [el n l k] [.op 0 (some n) 0]
  (fun r H'=>r=.err (jk l k)∧H'=[el n l k]):=by
 refine aj 31 Tryz.func66 fun al w0 F0 St0=>?_;refine U 207516 ?_;refine bv 0 rfl fun gl=>?_;refine U 51500000501004016 ?_;refine ap (fun h292=>?_) fun h292=>?_
 ·refine U 30005000700051501004016 ?_
  exact iU (gd:=fun z:Nat×Option Nat=>z.1) (E:=CH l k) (.inl rfl) (n,gl) [0,1] jD rfl (av rfl (ak rfl)) (aa.err (by unfold jk;rw [jP]))
 refine U 512350904016 ?_;refine ap (fun h294=>?_) fun h294=>?_
 ·refine dP ?_;refine jq (cK 23) ?_;refine U 30005000700051 ?_
  exact iU (gd:=fun z:Nat×Option Nat=>z.1) (E:=CH l k) (.inl rfl) (n,gl) [0,1] jD rfl (av rfl (ak rfl)) (aa.err (by unfold jk;rw [jK,jP]))
 refine U 512350200000050904016 ?_;refine ap (fun h296=>?_) fun h296=>?_
 ·refine dP ?_;refine jq (cK 3) ?_;refine U 30005000700051 ?_
  exact iU (gd:=fun z:Nat×Option Nat=>z.1) (E:=CH l k) (.inl rfl) (n,gl) [0,1] jD rfl (av rfl (ak rfl)) (aa.err (by unfold jk;rw [jK,jK,jP]))
 refine U 7000516840010 ?_
 have e:jk l k=0:=by unfold jk;rw [jK,jK,jK]
 rw [e]
 exact iU (gd:=fun z:Nat×Option Nat=>z.1) (E:=CH l k) (.inl rfl) (n,gl) [0,1] jD rfl (av rfl (ak rfl)) aa.nil
theorem L9 (n:Nat) (l:YD) (k:Nat) (hl:0<l.length∧l.length≤1000000) (hb:(aB l).length≤10000000):AC gs Tryz.prog 91 [el n l k] [.op 0 (some n) 0]
  (fun r H'=>r=aV (ab 0 l k).raw∧H'=[el n (ab 0 l k).l (ab 0 l k).k]):=by
 have hr:(ab 0 l k).raw.length≤100000000000:=by
  unfold ab
  split
  ·simp
  ·split
   ·simp
   ·split
    ·simp
    ·simp only [YS];omega
 refine aj 14 Tryz.func91 fun al w0 F0 St0=>?_;refine U 16516 ?_
 refine aq (aQ 0 (kp n l k 0 hl hb) ?_)
 refine U 9009009001 ?_
 refine au (cl (n:=2) gy rfl fun p2=>?_)
 refine aq (aA 2 ?_)
 refine U 16511 ?_
 refine au (ar (lz (ab 0 l k).raw hr) ?_)
 refine U 700051 ?_
 exact aJ (.inl rfl) rfl (av rfl (ak rfl)) I

theorem m7 {tag:Int} {l:YD} {k:Nat} (h:(ab tag l k).is=true):(ab tag l k).k=0∧(ab tag l k).body.length≤65530:=by
 have hb:=ek (aB l)
 unfold ab at h ⊢
 split
 ·rename_i h1;rw [YF h1] at h;cases h
 ·rename_i h1;rw [YE h1] at h
  split
  ·rename_i h2;rw [YF h2] at h;cases h
  ·rename_i h2;rw [YE h2] at h
   split
   ·rename_i h3;rw [YF h3] at h;cases h
   ·exact ⟨rfl,hb.2.2.1⟩
def eF (tag:Int) (l:YD) (k:Nat) (e:Z→Nat):Nat:=if (ab tag l k).is=true then e (ab tag l k).body else (ab tag l k).k
theorem pX {tag:Int} {l:YD} {k:Nat}:(ab tag l k).l.length=l.length:=by
 unfold ab
 split
 ·rfl
 ·split
  ·rfl
  ·split
   ·rfl
   ·simp
theorem yz {gs:List Nat} [gQ gs] {f:FuncId} {m:Nat} {fv:Nat→CV} (hc:bA Tryz.prog f=true) (n:Nat) (l:YD) (k:Nat) (tag:Int) (get:Z→Int×Nat) (hl:0<l.length∧l.length≤1000000) (hb:(aB l).length≤10000000) (hp:∀ b:Z,b.length≤65530→cc gs Tryz.prog f (aV b::(List.range m).map fv) (.tup 2 (fl [.c (.int .i64 (get b).1),.err (get b).2]))) :
  AC gs Tryz.prog 124 [el n l k] [.op 0 (some n) 0,.c (.int .i64 tag),.fn f m fv]
   (fun r H'=>r=.c (.int .i64 (if (ab tag l k).is=true∧(get (ab tag l k).body).2=0 then (get (ab tag l k).body).1 else 0))∧H'=[el n (ab tag l k).l (eF tag l k fun b=>(get b).2)]):=by
 have hln:(ab tag l k).l.length=l.length:=pX
 refine aj 38 Tryz.func124 fun al w0 F0 St0=>?_;refine U 116516516 ?_
 refine aq (aQ 0 (kp n l k tag hl hb) ?_)
 refine U 9009009001 ?_
 refine au (cl (n:=2) gy rfl fun p2=>?_)
 refine aq (aA 2 ?_)
 refine U 530167511 ?_;refine ap (fun h232=>?_) fun h232=>?_
 ·refine U 300070005116 ?_
  rw [YE (by simp_all)]
  have e:(eF tag l k fun b=>(get b).2)=(ab tag l k).k:=by unfold eF;rw [YE (by simpa using h232)]
  rw [e]
  exact aJ (.inl rfl) rfl (av rfl (ak rfl)) I
 refine U 810 ?_
 have his:=m7 (by simpa using h232)
 refine U 5010016 ?_
 refine au (ld rfl rfl (by assumption) (hp (ab tag l k).body his.2) (nZ I _) rfl rfl ?_)
 rintro _ _ ⟨rfl,rfl⟩
 refine U 55000001675119009001 ?_;refine ap (fun h236=>?_) fun h236=>?_
 rotate_left
 ·refine U 70005116810 ?_
  have h0:(get (ab tag l k).body).2=0:=by omega
  rw [YF ⟨by simpa using h232,h0⟩]
  have e:(eF tag l k fun b=>(get b).2)=(ab tag l k).k:=by unfold eF;rw [YF (by simpa using h232),his.1];exact h0
  rw [e]
  exact aJ (.inl rfl) rfl (av rfl (ak rfl)) I
 refine bv 0 rfl fun gl=>?_;refine U 10040116 ?_
 refine aq (aA 1 ?_)
 refine U 5 ?_;refine jE (cE n (get (ab tag l k).body).2 (ab tag l k).l 0 2 rfl rfl rfl (cO rfl) I (YG _) (fun _ _=>I)) ?_;refine U 300070005116 ?_
 rw [jK]
 have e:(eF tag l k fun b=>(get b).2)=(get (ab tag l k).body).2:=by unfold eF;rw [YF (by simpa using h232)]
 rw [e]
 exact aJ (.inl rfl) rfl (av rfl (ak rfl)) I
theorem aa.fn2' {k:FuncId} {f g:Nat→CV} (h0:aa (f 0) (g 0)) (h1:aa (f 1) (g 1)):aa (.fn k 2 f) (.fn k 2 g):=fun al St w v ⟨cs,k1,k2,k3⟩=>⟨cs,k1,k2,fun i hi=>by
 rcases i with _|_|i
 ·exact h0 _ _ _ _ (k3 0 O)
 ·exact h1 _ _ _ _ (k3 1 O)
 ·omega⟩
theorem sw {z:Int}:∀ j,j<1→aa (fl [CV.c (.int .i64 z)] (0+j)) (CV.c (.int .i64 z)):=fun j hj=>by
 obtain rfl:j=0:=by omega
 exact I
def PU (a b:Int):Nat→CV:=fl [.rp 1 fun _=>.c (.int .i64 a),.rp 1 fun _=>.c (.int .i64 b)]
theorem RJ (least most:Int) (b:Z):cc gs Tryz.prog 126 (aV b::(List.range 2).map (PU least most)) (.tup 2 (fl [.c (.int .i64 (aX b least most).1),.err (aX b least most).2])):=by
 refine aj 12 Tryz.func126 fun al w0 F0 St0=>?_;refine U 6060165116 ?_
 refine au (ar (Hn b least most) ?_)
 refine U 511900900 ?_
 refine jR eA
theorem NO (n:Nat) (l:YD) (k:Nat) (least most:Int) (hl:0<l.length∧l.length≤1000000) (hb:(aB l).length≤10000000) :
  AC gs Tryz.prog 61 [el n l k] [.op 0 (some n) 0,.c (.int .i64 least),.c (.int .i64 most)]
   (fun r H'=>r=.c (.int .i64 (if (ab 2 l k).is=true∧(aX (ab 2 l k).body least most).2=0 then (aX (ab 2 l k).body least most).1 else 0))∧H'=[el n (ab 2 l k).l (eF 2 l k fun b=>(aX b least most).2)]):=by
 refine aj 10 Tryz.func61 fun al w0 F0 St0=>?_;refine dP ?_
 refine au (ff 1 fun p1=>?_)
 refine au (ff 1 fun p2=>?_)
 refine U 51 ?_;refine jE (freeze 1 rfl) ?_;refine jE (freeze 2 rfl) ?_;refine jE (lD 4 (m:=1) rfl rfl jD) ?_;refine jE (lD 5 (m:=1) rfl rfl jD) ?_;refine U 16 ?_;refine jq Nr ?_
 refine aq (aQ 0 (yz (fv:=PU least most) (by kernel_rfl) n l k 2 (fun b=>aX b least most) hl hb (fun b _=>RJ least most b)) ?_ (ho:=rfl) (he:=(.cons (se rfl cP) (.cons (se rfl I) (.cons (se rfl (aa.fn2' (aa.rp sw) (aa.rp sw))) .nil)))))
 refine U 700051 ?_
 exact aJ (.inl rfl) rfl (av rfl (ak rfl)) I

theorem yU (b:Z) (hb:b.length≤10000000):AC gs Tryz.prog 56 [] [aV b] (fun r H'=>∃ n,r=.op 0 (some n) 0∧H'=[el n [b] (aN b).2]):=by
 refine aj 10 Tryz.func56 fun al w0 F0 St0=>?_;refine U 16516 ?_
 refine au (ar (lz b O) ?_)
 refine au (aY 1 1 eK fun p1=>?_)
 refine U 1 ?_
 refine au (ar (xA b hb) ?_)
 refine jq (ai (n:=2) rfl VL Wi rfl rfl) ?_
 refine au (ff 2 fun p2=>?_)
 refine U 51 ?_;refine cL (gW 2 rfl) fun hn=>?_
 obtain ⟨n,rfl⟩:=hn
 refine jE (cE n (aN b).2 [b] 1 0 rfl rfl rfl (cO rfl) I (YG _) (fun a ha=>by obtain rfl:a=0:=(by simpa using ha);exact I)) ?_;refine U 7000 ?_
 exact bu (.inl rfl) [1] jD rfl (av rfl (ak rfl)) (cP (j:=0)) ⟨n,rfl,rfl⟩

theorem Ht {gs:List Nat} [gQ gs] {f:FuncId} {m:Nat} {fv:Nat→CV} (hc:bA Tryz.prog f=true) (n:Nat) (l:YD) (k:Nat) (tag:Int) (get:Z→Z×Nat) (hl:0<l.length∧l.length≤1000000) (hb:(aB l).length≤10000000) (hp:∀ b:Z,b.length≤65530→cc gs Tryz.prog f (aV b::(List.range m).map fv) (.tup 2 (fl [aV (get b).1,.err (get b).2]))) :
  AC gs Tryz.prog 122 [el n l k] [.op 0 (some n) 0,.c (.int .i64 tag),.fn f m fv]
   (fun r H'=>r=aV (if (ab tag l k).is=true∧(get (ab tag l k).body).2=0 then (get (ab tag l k).body).1 else [])∧H'=[el n (ab tag l k).l (eF tag l k fun b=>(get b).2)]):=by
 have hln:(ab tag l k).l.length=l.length:=pX
 refine aj 38 Tryz.func122 fun al w0 F0 St0=>?_;refine U 116516516 ?_
 refine aq (aQ 0 (kp n l k tag hl hb) ?_)
 refine U 9009009001 ?_
 refine au (cl (n:=2) gy rfl fun p2=>?_)
 refine aq (aA 2 ?_)
 refine U 530167511 ?_;refine ap (fun h232=>?_) fun h232=>?_
 ·refine U 300070005116 ?_
  rw [YE (by simp_all)]
  have e:(eF tag l k fun b=>(get b).2)=(ab tag l k).k:=by unfold eF;rw [YE (by simpa using h232)]
  rw [e]
  exact aJ (.inl rfl) rfl (av rfl (ak rfl)) (by exact cN)
 refine U 810 ?_
 have his:=m7 (by simpa using h232)
 refine U 5010016 ?_
 refine au (ld rfl rfl (by assumption) (hp (ab tag l k).body his.2) (nZ I _) rfl rfl ?_)
 rintro _ _ ⟨rfl,rfl⟩
 refine U 55000001675119009001 ?_;refine ap (fun h236=>?_) fun h236=>?_
 rotate_left
 ·refine U 70005116810 ?_
  have h0:(get (ab tag l k).body).2=0:=by omega
  rw [YF ⟨by simpa using h232,h0⟩]
  have e:(eF tag l k fun b=>(get b).2)=(ab tag l k).k:=by unfold eF;rw [YF (by simpa using h232),his.1];exact h0
  rw [e]
  exact aJ (.inl rfl) rfl (av rfl (ak rfl)) (by exact I)
 refine bv 0 rfl fun gl=>?_;refine U 10040116 ?_
 refine aq (aA 1 ?_)
 refine U 5 ?_;refine jE (cE n (get (ab tag l k).body).2 (ab tag l k).l 0 2 rfl rfl rfl (cO rfl) I (YG _) (fun _ _=>I)) ?_;refine U 300070005116 ?_
 rw [jK]
 have e:(eF tag l k fun b=>(get b).2)=(get (ab tag l k).body).2:=by unfold eF;rw [YF (by simpa using h232)]
 rw [e]
 exact aJ (.inl rfl) rfl (av rfl (ak rfl)) (by exact cN)
theorem yy {gs:List Nat} [gQ gs] {f:FuncId} {m:Nat} {fv:Nat→CV} (hc:bA Tryz.prog f=true) (n:Nat) (l:YD) (k:Nat) (tag:Int) (get:Z→Z×Nat) (hl:0<l.length∧l.length≤1000000) (hb:(aB l).length≤10000000) (hp:∀ b:Z,b.length≤65530→cc gs Tryz.prog f (aV b::(List.range m).map fv) (.tup 2 (fl [an (get b).1,.err (get b).2]))) :
  AC gs Tryz.prog 129 [el n l k] [.op 0 (some n) 0,.c (.int .i64 tag),.fn f m fv]
   (fun r H'=>r=an (if (ab tag l k).is=true∧(get (ab tag l k).body).2=0 then (get (ab tag l k).body).1 else [])∧H'=[el n (ab tag l k).l (eF tag l k fun b=>(get b).2)]):=by
 have hln:(ab tag l k).l.length=l.length:=pX
 refine aj 38 Tryz.func129 fun al w0 F0 St0=>?_;refine U 116516516 ?_
 refine aq (aQ 0 (kp n l k tag hl hb) ?_)
 refine U 9009009001 ?_
 refine au (cl (n:=2) gy rfl fun p2=>?_)
 refine aq (aA 2 ?_)
 refine U 530167511 ?_;refine ap (fun h232=>?_) fun h232=>?_
 ·refine U 300070005116 ?_
  rw [YE (by simp_all)]
  have e:(eF tag l k fun b=>(get b).2)=(ab tag l k).k:=by unfold eF;rw [YE (by simpa using h232)]
  rw [e]
  exact aJ (.inl rfl) rfl (av rfl (ak rfl)) I
 refine U 810 ?_
 have his:=m7 (by simpa using h232)
 refine U 5010016 ?_
 refine au (ld rfl rfl (by assumption) (hp (ab tag l k).body his.2) (nZ I _) rfl rfl ?_)
 rintro _ _ ⟨rfl,rfl⟩
 refine U 55000001675119009001 ?_;refine ap (fun h236=>?_) fun h236=>?_
 rotate_left
 ·refine U 70005116810 ?_
  have h0:(get (ab tag l k).body).2=0:=by omega
  rw [YF ⟨by simpa using h232,h0⟩]
  have e:(eF tag l k fun b=>(get b).2)=(ab tag l k).k:=by unfold eF;rw [YF (by simpa using h232),his.1];exact h0
  rw [e]
  exact aJ (.inl rfl) rfl (av rfl (ak rfl)) I
 refine bv 0 rfl fun gl=>?_;refine U 10040116 ?_
 refine aq (aA 1 ?_)
 refine U 5 ?_;refine jE (cE n (get (ab tag l k).body).2 (ab tag l k).l 0 2 rfl rfl rfl (cO rfl) I (YG _) (fun _ _=>I)) ?_;refine U 300070005116 ?_
 rw [jK]
 have e:(eF tag l k fun b=>(get b).2)=(get (ab tag l k).body).2:=by unfold eF;rw [YF (by simpa using h232)]
 rw [e]
 exact aJ (.inl rfl) rfl (av rfl (ak rfl)) I
end
def SQ (ls:YD) (j:Nat):CV:=an (ls.getD j [])
def X9 (ls:YD):CV:=.rs 1 ls.length fun i _=>an (ls.getD i [])
theorem Qn:FR 1 SQ:=fun l l2 j hj=>by
 simp only [SQ,YH]
 split
 ·rw [YL O]
 ·rw [YX O,Ze]
theorem P6 {ls:YD}:∀ a b,a<ls.length→b<1→aa (SQ ls (0+(a * 1+b))) (an (ls.getD a [])):=fun a b ha hb=>aa.of_eq (by rw [show 0+(a * 1+b)=a by omega];rfl)
theorem RB {gs:List Nat} (ls:YD) (sep:Z) (h1:ls.length≤1000000000) (h2:(Lib.join ls sep).length≤100000000000):cc gs Tryz.prog 266 [X9 ls,an sep] (an (Lib.join ls sep)) :=
 ot fun al w St vals hs hv hr=>by
  obtain ⟨ao,cap,k1,k2,k3,k4,k5⟩:=hr 0
  rw [ui hv,show vals.getD 0 undef=.slice ao ls.length cap from k1,show vals.getD 1 undef=.string ⟨sep.toArray⟩ from hr 1]
  by_cases hn:ls=[]
  ·subst hn
   exact (Tryz.strings_Join_none ao cap _ w).mono (by rintro e w' ⟨rfl,rfl⟩;exact ⟨rfl,Below.refl _ _⟩)
  ·have hp:0<ls.length:=Zh.2 hn
   obtain ⟨a,rfl⟩:∃ a,ao=some a:=by
    cases ao with
    | none=>have:=k4 rfl;omega
    | some a=>exact ⟨a,rfl⟩
   obtain ⟨e1,e2,e3⟩:=k5 a rfl hp
   obtain ⟨bk,o,sp⟩:=a
   obtain rfl:sp=none:=e1
   have hm:(ls.map fun l=>(⟨l.toArray⟩:ByteArray)).map (·.data.toList)=ls:=by
    rw [Z9]
    exact (aGx fun x _=>by simp).trans (bXx ls)
   have hc:∀ (j:Nat) x,(ls.map fun l=>(⟨l.toArray⟩:ByteArray))[j]?=some x→w.cell? ⟨bk,o+j,none⟩=some (.string x):=fun j x hx=>by
    rw [ZB] at hx
    obtain ⟨y,hy,rfl⟩:=YM.1 hx
    have hj:j<ls.length:=(YJ.1 hy).1
    obtain ⟨v,hv1,hv2⟩:=e3 j 0 hj O
    rw [show o+(j * 1+0)=o+j by omega] at hv1
    rw [hv1]
    have:v=.string ⟨(ls.getD j []).toArray⟩:=hv2
    rw [this,YH,hy];rfl
   have hb:bk<w.heap.size:=by
    obtain ⟨v,hv1,hv2⟩:=e3 0 0 hp O
    exact World.block_lt_of_cell? w _ hv1
   have hj:=Tryz.strings_Join bk o cap (ls.map fun l=>(⟨l.toArray⟩:ByteArray)) ⟨sep.toArray⟩ w hc hb (by rw [Zy];omega) (by rw [Zy];exact k2) (by rw [hm];show (Lib.join ls sep).length≤_;omega)
   rw [hm,Zy] at hj
   exact hj
section
variable {gs:List Nat} [Pk gs]

def NP (n:Int):Bool:=decide (0≤n) && decide (n≤2147483647)
theorem fO {l:List Int} (h:(l.length:Int)<2∨(16:Int)<l.length∨l.getD 0 0<0∨2<l.getD 0 0∨(l.getD 0 0<2∧39<l.getD 1 0)∨l.all NP=false):dj l=false:=by
 cases e:dj l with
 | false=>rfl
 | true =>
  obtain ⟨h1,h2,h3,h4,h5⟩:=kk e
  rcases h with h|h|h|h|h|h
  ·omega
  ·omega
  ·have:=h3 _ (eO (l:=l) (k:=0) 0 O);omega
  ·omega
  ·omega
  ·have:l.all NP=true:=Y8.2 fun n hn=>by have:=h3 n hn;unfold NP;simp;omega
   rw [this] at h;cases h
theorem wq {l:List Int} (h1:¬ (l.length:Int)<2) (h2:¬ (16:Int)<l.length) (h3:¬ 2<l.getD 0 0) (h4:¬ (l.getD 0 0<2∧39<l.getD 1 0)) (h5:l.all NP=true):dj l=true:=by
 unfold dj
 have e:l.all (fun n=>decide (0≤n) && decide (n≤2147483647))=true:=h5
 rw [e,Zj (show 2≤l.length by omega),Zj (show l.length≤16 by omega),Zj (show l.getD 0 0≤2 by omega)]
 by_cases h6:l.getD 0 0=2
 ·rw [Zj h6];rfl
 ·rw [Zj (show l.getD 1 0<40 by omega),Bool.or_true];rfl
theorem GN {n:Int} (h1:¬ n<0) (h2:¬ 2147483647<n):NP n=true:=by
 unfold NP
 simp only [YK,YP]
 omega
theorem Bq {n:Int} (h:n<0∨2147483647<n):NP n=false:=by
 cases e:NP n with
 | false=>rfl
 | true =>
  unfold NP at e
  simp only [YK,YP] at e
  omega
theorem yG {α:Type} {p:α→Bool} {l:List α} {i:Nat} (d:α) (h:i<l.length) (h1:(l.take i).all p=true) (h2:p (l.getD i d)=true):(l.take (i+1)).all p=true:=by
 rw [mS d h,aTx,h1,Z6,h2]
 rfl
theorem ra {gs:List Nat} (l:List Int):cc gs Tryz.prog 215 [Ju l] (.c (.bool (dj l))):=by
 refine fC 0 rfl fun hlen=>?_;refine aj 50 Tryz.func215 fun al w0 F0 St0=>?_;refine U 123167516 ?_;refine aK 8 (fun g11=>?_) fun g11=>?_
 ·refine U 80003000700051690005100000000444444444411000000004444110000000044441100000000444 ?_;refine cB ?_
  refine (fO ?_).symm
  omega
 refine U 1500231 ?_;refine aK 13 (fun g11_2=>?_) fun g11_2=>?_
 ·refine U 8000300070005169000510000000044444444441100000000444411000000004444 ?_;refine cB ?_
  refine (fO ?_).symm
  omega
 refine U 150026020000001 ?_;refine aK 19 (fun g11_3=>?_) fun g11_3=>?_
 ·refine U 80003000700051690005100000000444444444411000000004444 ?_;refine cB ?_
  refine (fO ?_).symm
  omega
 refine U 150026020000001 ?_;refine aK 25 (fun g11_4=>?_) fun g11_4=>?_
 ·refine U 800030007000516900051000000004444444444 ?_;refine cB ?_
  refine (fO ?_).symm
  omega
 refine U 126020000001 ?_;refine aK 30 (fun g11_5=>?_) fun g11_5=>?_
 rotate_left
 ·refine U 2051316781030055005004444 ?_;refine ax (α:=Nat) [2,4,39,40,41,42,43,44,45,46,47,48,49] (fun i=>[(39,.c (.int .i64 (i:Nat)))]) (fun _=>[]) (fun i=>i≤l.length∧(l.take i).all NP=true) (fun i=>l.length-i) (0) ?_ (fun _=>rfl) ?_ ?_ ?_
  ·exact ⟨YT _,rfl⟩
  ·(repeat (first|exact bz.nil|refine bz.cons I ?_))
  ·(repeat (exact aP.nil))
  ·rintro i ⟨(hi:i≤l.length),hall⟩
   refine U 7526 ?_;refine ap (fun h14=>?_) fun h14=>?_
   rotate_left
   ·refine U 8000700051684000200020006000 ?_;refine cB ?_
    rw [show i=l.length by omega,Za] at hall
    exact (wq O O O O hall).symm
   refine U 121651607006207810 ?_;refine aK 45 (fun g15=>?_) fun g15=>?_
   ·refine U 80003000500030003000500070005169000510000000044 ?_;refine cB ?_
    exact (fO (.inr (.inr (.inr (.inr (.inr (lB (k:=i) 0 O (Bq O)))))))).symm
   refine U 550021 ?_;refine ap (fun h15=>?_) fun h15=>?_
   ·refine U 8000300050003000300050007000516 ?_;refine cB ?_
    exact (fO (.inr (.inr (.inr (.inr (.inr (lB (k:=i) 0 O (Bq O)))))))).symm
   refine U 8519200840010 ?_;refine aw (i+1) ?_ ?_
   ·exact ⟨by omega,yG 0 O hall (GN O O)⟩
   ·show l.length-(i+1)<l.length-i;omega
 refine U 1 ?_;refine jq (dU (i:=1)) ?_;refine U 5500100000000260 ?_;refine ap (fun h11=>?_) fun h11=>?_
 ·refine U 800030007000516 ?_;refine cB ?_
  refine (fO ?_).symm
  omega
 refine U 20513167810 ?_;refine ax (α:=Nat) [2,4,39,40,41,42,43,44,45,46,47,48,49] (fun i=>[(39,.c (.int .i64 (i:Nat)))]) (fun _=>[]) (fun i=>i≤l.length∧(l.take i).all NP=true) (fun i=>l.length-i) (0) ?_ (fun _=>rfl) ?_ ?_ ?_
 ·exact ⟨YT _,rfl⟩
 ·(repeat (first|exact bz.nil|refine bz.cons I ?_))
 ·(repeat (exact aP.nil))
 ·rintro i ⟨(hi:i≤l.length),hall⟩
  refine U 7526 ?_;refine ap (fun h14=>?_) fun h14=>?_
  rotate_left
  ·refine U 8000700051684000200020006000 ?_;refine cB ?_
   rw [show i=l.length by omega,Za] at hall
   exact (wq O O O O hall).symm
  refine U 121651607006207810 ?_;refine aK 45 (fun g15=>?_) fun g15=>?_
  ·refine U 80003000500030003000500070005169000510000000044 ?_;refine cB ?_
   exact (fO (.inr (.inr (.inr (.inr (.inr (lB (k:=i) 0 O (Bq O)))))))).symm
  refine U 550021 ?_;refine ap (fun h15=>?_) fun h15=>?_
  ·refine U 8000300050003000300050007000516 ?_;refine cB ?_
   exact (fO (.inr (.inr (.inr (.inr (.inr (lB (k:=i) 0 O (Bq O)))))))).symm
  refine U 8519200840010 ?_;refine aw (i+1) ?_ ?_
  ·exact ⟨by omega,yG 0 O hall (GN O O)⟩
  ·show l.length-(i+1)<l.length-i;omega
end
section
variable {gs:List Nat} [gQ gs]

theorem KJ {gs:List Nat} {g:FuncId} {n:Nat} {fv:Nat→CV} (hc:bA Tryz.prog g=true) (l:List (UInt8)) (p:(UInt8)→Bool) (hp:∀ r,cc gs Tryz.prog g ((fun z:UInt8=>.c (.int .u8 (z.toNat:Nat))) r::(List.range n).map fv) (.c (.bool (p r)))) :
  cc gs Tryz.prog 263 [aV l,.fn g n fv] (.c (.int .i64 (dZ p l))):=by
 refine fC 0 rfl fun hlen=>?_;refine aj 19 Tryz.func263 fun al w0 F0 St0=>?_;refine U 20513167516 ?_;refine ax (α:=Nat) [4,5,8,9,10,11,12,13,14,15,16,17,18] (fun i=>[(8,.c (.int .i64 (i:Nat)))]) (fun _=>[]) (fun i=>i≤l.length∧∀ j (hj:j<l.length),j<i→p l[j]=false) (fun i=>l.length-i) (0) ?_ (fun _=>rfl) ?_ ?_ ?_
 ·exact ⟨by omega,fun j _ hj=>absurd hj (YW j)⟩
 ·(repeat (first|exact bz.nil|refine bz.cons I ?_))
 ·(repeat (exact aP.nil))
 ·rintro i ⟨hi,he⟩
  refine U 7526 ?_;refine ap (fun h108=>?_) fun h108=>?_
  rotate_left
  ·refine U 8000700051684000200020006000 ?_;refine cI ?_
   exact (mo fun j hj=>he j hj O).symm
  refine U 6070011165116207810 ?_
  refine au (ld rfl rfl (by assumption) (hp (l.getD i 0)) (nZ I _) rfl rfl ?_)
  rintro _ _ ⟨rfl,rfl⟩
  refine U 5 ?_;refine ap (fun h109=>?_) fun h109=>?_
  ·refine U 80003000500030003000500070005116 ?_;refine cI ?_
   have hlt:i<l.length:=by omega
   exact (ni i hlt (by simpa [List.getD,hlt] using h109) (fun j hj=>he j O hj)).symm
  refine U 8519200840010 ?_;refine aw (i+1) ?_ ?_
  ·exact ⟨by omega,fun j hj hj1=>by
    by_cases e:j=i
    ·subst e
     simpa [List.getD,hj] using h109
    ·exact he j hj O⟩
  ·omega
theorem UC {gs:List Nat} (c:UInt8):cc gs Tryz.prog 264 (.c (.int .u8 (c.toNat:Nat))::(List.range 0).map fun _=>.top) (.c (.bool (decide (c.toNat<128)))):=by
 refine aj 5 Tryz.func264 fun al w0 F0 St0=>?_;refine U 8000700051216516 ?_;refine cB ?_
 (simp_all;omega)
def SS (f:FuncId) (g:Option Nat):CV:=.fn f 1 (fl [.op 0 g 0])
theorem Qi {gs:List Nat} (b:Z):AC gs Tryz.prog 241 [] [aV b] (fun r H'=>∃ g,r=SS 262 g∧H'=[(g,.blk 1 (fun _=>aV b))]):=by
 refine aj 4 Tryz.func241 fun al w0 F0 St0=>?_;refine dP ?_
 refine au (ff 1 fun p1=>?_)
 refine U 51 ?_;refine jE (eE 0 (m:=1) (F:=fun _=>aV b) rfl (YG _) (fun _=>rfl) (fun j hj=>by obtain rfl:j=0:=O;exact I)) ?_;refine dP ?_;refine jq Nr ?_;refine U 700051 ?_
 exact bV (.inl rfl) (SS 262 p1) _ [0] jD rfl ((av rfl (ak rfl)).ent (by refine aa.fn1 ?_;exact cP)) ⟨_,rfl,rfl⟩
theorem H7 {b rest:Z} {k:Nat} (h:(bK b).drop k=bK rest) (hr:rest≠[]):k<(bK b).length∧(bK b).getD k []=rest.take (bn rest)∧(bK b).drop (k+1)=bK (rest.drop (bn rest)):=by
 rw [nH hr] at h
 have h2:=tZ (d:=[]) h
 refine ⟨?_,h2.1,h2.2⟩
 apply Z4
 intro hn
 rw [ZE O] at h
 cases h
theorem Lz {b rest:Z} {k:Nat} (h:(bK b).drop k=bK rest) (hr:rest=[]) (hk:k≤(bK b).length):k=(bK b).length:=by
 subst hr
 rw [jF] at h
 have:=List.drop_eq_nil_iff.1 h
 omega
theorem H6 {gs:List Nat} (b:Z) (g:Option Nat) (hb:b.length≤100000000000):Pm gs Tryz.prog 262 [(g,.blk 1 (fun _=>aV b))] ((List.range 1).map (fl [.op 0 g 0])) (bK b).length (fun k=>[aV ((bK b).getD k [])]):=fun l J Jx hY=>by
 refine FP true 23 Tryz.func262 rfl rfl rfl (fun al w0 F0 St0=>?_)
 refine U 20 ?_;refine ax (α:=Nat×Z) [3,4,5,6,7,8,9,10,11,12,13,14,15,16,17,18,19,20,21,22] (fun _=>[]) (fun (k,rest)=>[(g,.blk 1 (fun _=>aV rest)),(some l,.obj (J k))]) (fun (k,rest)=>(bK b).drop k=bK rest∧rest.length≤b.length∧k≤(bK b).length) (fun (k,rest)=>rest.length) ((0,b)) ?_ (fun _=>rfl) ?_ ?_ ?_
 ·exact ⟨rfl,YG _,YT _⟩
 ·exact .nil
 ·exact .same (.same .nil)
 ·rintro ⟨k,rest⟩ ⟨hk,hlen,hkn⟩
  refine U 5235067 ?_;refine ap (fun h83=>?_) fun h83=>?_
  rotate_left
  ·refine U 4000200020006000 ?_
   exact bV (.inr rfl) _ _ [1] jD rfl (cM rfl) (.inl (by rw [← Lz hk (Zp.1 O) hkn];rfl))
  refine U 20810 ?_
  have hne:rest≠[]:=Zh.1 O
  have hk2:=H7 hk hne
  have hrl:=Rp rest (fun c=>decide (c.toNat<128)) (fun _=>rfl)
  have hrp:=fN hne
  have hrn:=lj rest
  have hfb:=nh (fun c:UInt8=>decide (c.toNat<128)) rest
  refine U 506 ?_
  refine au (ar (KJ (n:=0) (fv:=fun _=>.top) (by kernel_rfl) rest (fun c=>decide (c.toNat<128)) UC) ?_)
  refine U 519 ?_;refine dW (α:=Unit) [3,10,11,12,13] (fun _=>[(3,.c (.int .i64 (bn rest:Nat)))]) (fun _=>[(g,.blk 1 (fun _=>aV rest)),(some l,.obj (J k))]) (fun _=>True) (fun _=>rfl) ?_ ?_
  ·refine U 5216 ?_;refine ap (fun h85=>?_) fun h85=>?_
   rotate_left
   ·refine U 810 ?_
    refine cU (()) ?_ (h5:=?_) (h7:=?_)
    ·trivial
    ·exact .cons (cI O) .nil
    ·exact .same (.same .nil)
   refine U 851350200 ?_
   refine cU (()) ?_ (h5:=?_) (h7:=?_)
   ·trivial
   ·exact .cons (cI O) .nil
   ·exact .same (.same .nil)
  ·rintro u _
   refine U 150167 ?_;refine jq (w9 (hz2:=(show _=(((bn rest):Nat):Int) by omega))) ?_
   refine AH (bw rfl) rfl (Bc (i:=1) rfl rfl rfl (hY k hk2.1) (.cons (se rfl (aa.bs hk2.2.1.symm)) .nil) rfl rfl ?_)
   rintro _ _ (⟨rfl,rfl⟩|⟨rfl,rfl⟩)
   ·refine ⟨_,_,rfl,I,?_⟩
    refine U 150200810300530 ?_;refine jq (qB (hz1:=(show _=(((bn rest):Nat):Int) by omega))) ?_
    refine aq (aA 1 ?_)
    refine U 84005 ?_
    refine aw ((k+1,rest.drop (bn rest))) ?_ ?_ (h5:=?_) (h7:=?_)
    ·exact ⟨hk2.2.2,by rw [YN];omega,by omega⟩
    ·show (rest.drop (bn rest)).length<rest.length;rw [YN];omega
    ·exact .nil
    ·exact .blk rfl (fun j hj=>by obtain rfl:j=0:=O;exact I) (.same .nil)
   ·refine ⟨_,_,rfl,I,?_⟩
    refine U 500030005000300070009000530 ?_
    exact bV (.inl rfl) _ _ [1] jD rfl (cM rfl) (.inr rfl)

theorem Cl {l:List Int} {i:Nat} (h:i<l.length):((l.take (i+1)).map fun n=>mv n.toNat)=((l.take i).map fun n=>mv n.toNat)++[mv (l.getD i 0).toNat]:=by
 rw [mS 0 h,Z3];rfl
theorem Mr (l:List Int):cc gs Tryz.prog 243 [Ju l] (.tup 2 (fl [an (uj l).1,.err (uj l).2])):=by
 refine fC 0 rfl fun hlen=>?_;refine aj 25 Tryz.func243 fun al w0 F0 St0=>?_;refine U 1675116 ?_
 refine au (ar (zb l) ?_)
 refine U 530 ?_;refine ap (fun h47=>?_) fun h47=>?_
 ·refine gY ?_;refine dY (.rd 0 (.rd 1 (.rd 2 .done))) ?_;refine aM (cK 0) ?_;refine U 8000300070008807070 ?_
  have hb:uj l=([],1):=by unfold uj;rw [YE (by simp_all)]
  exact cT (aa.strL (by rw [hb])) (aa.errN (by rw [hb]))
 refine U 7516810 ?_;refine jE (gL (SQ [])) ?_;refine U 2051316 ?_;refine ax (α:=Nat×YD×Option Nat) [4,6,13,14,15,16,17,18,19,20,21,22] (fun (i,X,g)=>[(13,.c (.int .i64 (i:Nat))),(4,.os 0 g 0 X.length 1)]) (fun (i,X,g)=>[(g,.blk (X.length * 1) (SQ X))]) (fun (i,X,g)=>i≤l.length∧X=(l.take i).map fun n=>mv n.toNat) (fun (i,X,g)=>l.length-i) ((0,[],none)) ?_ (fun _=>rfl) ?_ ?_ ?_
 ·exact ⟨YT _,rfl⟩
 ·exact .cons I (.cons aa.nilO .nil)
 ·exact .blk rfl (fun j hj=>absurd hj (YW j)) .nil
 ·rintro ⟨i,X,g⟩ ⟨(hi:i≤l.length),hX⟩
  have hXl:X.length=i:=by rw [hX,Zy,YS];omega
  obtain ⟨r1,r2,r3,_,_⟩:=kk (l:=l) (by simp_all)
  refine jE (gL (SQ [])) ?_;refine U 7526 ?_;refine ap (fun h51=>?_) fun h51=>?_
  rotate_left
  ·refine U 84000200020006000 ?_
   have hi2:i=l.length:=by omega
   rw [hi2,Za] at hX
   have hb:uj l=(kG l,0):=by unfold uj;rw [YF (by simp_all)]
   obtain ⟨q1,q2,q3,_,_⟩:=kk (l:=l) (by simp_all)
   have hjl:=xb (c:=46) (m:=10) (ls:=X) (fun p hp=>by
    rw [hX] at hp
    obtain ⟨n,hn,rfl⟩:=aBx.1 hp
    exact lf 9 n.toNat (by have:=q3 n hn;omega))
   have hjo:=Dh 46 X
   refine jE (freeze 0 rfl) ?_;refine jE (kg 4 (fun b _=>an (X.getD b [])) rfl rfl O P6) ?_;refine U 16 ?_
   refine au (ar (RB X [46] O (by rw [hjo];omega)) ?_)
   refine U 511 ?_
   refine jR (eA (hv:=cT (aa.strL (by rw [hb,hjo,hX];rfl)) (aa.nilE (by rw [hb]))))
  refine U 207810 ?_;refine jE (gL (SQ [])) ?_;refine U 51607006 ?_
  have hn:=r3 _ (eO (l:=l) (k:=i) 0 O)
  refine U 11200 ?_
  refine au (ar (PG (l.getD i 0).toNat O) ?_ (ho:=rfl) (he:=(.cons (se rfl (cI O)) .nil)))
  refine au (aY 1 1 Eg fun p1=>?_)
  refine aq (aF (Qn) (l2:=[mv (l.getD i 0).toNat]) rfl rfl rfl rfl (by exact YG _) (fun _ _=>I) (aW rfl (.inl rfl) jD) rfl (fun j hj=>by rcases j with _|j <;> first|exact I|(exfalso;simp at hj <;> omega)) Tryz.underlying27 MG PY Eg WV rfl (by (simp;omega)) (by (simp;omega)) (bC rfl rfl) rfl rfl rfl (fun p2=>?_))
  refine U 840051 ?_;refine jE (gL (SQ [])) ?_;refine U 8519200 ?_
  refine aw ((i+1,X++[mv (l.getD i 0).toNat],p2)) ?_ ?_ (h5:=?_) (h7:=?_)
  ·exact ⟨by omega,by rw [hX,Cl O]⟩
  ·show l.length-(i+1)<l.length-i;omega
  ·exact .cons (cI O) (.cons I .nil)
  ·exact .same .nil

theorem wt {b:Z} {k:Nat} (hk:k<(bK b).length):(fo b).getD k (0,0)=dM ((bK b).getD k []) (if k=0 then 2147483727 else 2147483647):=CB _ _ _ hk
theorem Cz {b:Z} {k:Nat} (hk:k<(bK b).length):(((fo b).take (k+1)).map (·.1))=(((fo b).take k).map (·.1))++[((fo b).getD k (0,0)).1]:=by
 rw [mS (0,0) (by rw [mX];exact hk),Z3];rfl
theorem Rf (r:Z) (most:Nat):(dM r most).1≤most:=by
 unfold dM
 split
 ·exact YT _
 split
 ·exact YT _
 split
 ·exact YT _
 ·show cX r≤most;omega
theorem PT {a b c d:Int} (h1:a=c) (h2:b=d):∀ j,j<[c,d].length→aa (fl [.c (.int .i64 a),.c (.int .i64 b)] j) (qC [c,d] j):=fun j hj=>by
 rcases j with _|_|j
 ·exact cI h1
 ·exact cI h2
 ·exact absurd hj (by simp)
section
variable {b:Z} {k:Nat} {X:List Int}
theorem Tq (hk:k<(bK b).length) (h0:0<k) (herr:fw ((fo b).take k)=0) (h:(dM ((bK b).getD k []) 2147483647).2≠0):(dM ((bK b).getD k []) 2147483647).2=fw (fo b):=by
 have hat:=wt hk
 rw [jK] at hat
 rw [← hat] at h ⊢
 exact (DD (by rw [mX];exact hk) herr h).symm
theorem Tr (hk:k<(bK b).length) (h0:k=0) (herr:fw ((fo b).take k)=0) (h:(dM ((bK b).getD k []) 2147483727).2≠0):(dM ((bK b).getD k []) 2147483727).2=fw (fo b):=by
 have hat:=wt hk
 rw [YF h0] at hat
 rw [← hat] at h ⊢
 exact (DD (by rw [mX];exact hk) herr h).symm
theorem XN (hk:k<(bK b).length) (h0:0<k) (herr:fw ((fo b).take k)=0) (h:(dM ((bK b).getD k []) 2147483647).2≠0):fw (fo b)≠0:=by
 rw [← Tq hk h0 herr h];exact h
theorem XO (hk:k<(bK b).length) (h0:k=0) (herr:fw ((fo b).take k)=0) (h:(dM ((bK b).getD k []) 2147483727).2≠0):fw (fo b)≠0:=by
 rw [← Tr hk h0 herr h];exact h
theorem Ws (hk:k<(bK b).length) (h0:0<k) (hX:X=cF (((fo b).take k).map (·.1))) (herr:fw ((fo b).take k)=0) (h:(dM ((bK b).getD k []) 2147483647).2=0):X++[((dM ((bK b).getD k []) 2147483647).1:Int)]=cF (((fo b).take (k+1)).map (·.1))∧fw ((fo b).take (k+1))=0:=by
 have hat:=wt hk
 rw [jK] at hat
 have hkR:k<(fo b).length:=by rw [mX];exact hk
 refine ⟨?_,by rw [DC hkR herr,hat,h]⟩
 rw [Cz hk,hat,Kh _ (fun e=>by have:=Y3 List.length e;rw [Zy,YS,List.length_nil] at this;omega),hX]
theorem Wt (hk:k<(bK b).length) (h0:k=0) (herr:fw ((fo b).take k)=0) (h:(dM ((bK b).getD k []) 2147483727).2=0):[((min ((dM ((bK b).getD k []) 2147483727).1 / 40) 2:Nat):Int),((dM ((bK b).getD k []) 2147483727).1:Int)-40 * ((min ((dM ((bK b).getD k []) 2147483727).1 / 40) 2:Nat):Int)]=cF (((fo b).take (k+1)).map (·.1))∧fw ((fo b).take (k+1))=0:=by
 have hat:=wt hk
 rw [YF h0] at hat
 have hkR:k<(fo b).length:=by rw [mX];exact hk
 refine ⟨?_,by rw [DC hkR herr,hat,h]⟩
 rw [Cz hk,hat,h0]
 rfl
end
theorem Q7 (b:Z) (hb:b.length≤1000000):cc gs Tryz.prog 210 [aV b] (.tup 2 (fl [an (ee b).1,.err (ee b).2])):=by
 have hrl:=Ly b.length b (YG _)
 have hRl:=mX b
 refine aj 54 Tryz.func210 fun al w0 F0 St0=>?_;refine dP ?_
 refine au (cl (n:=1) Eg rfl fun p1=>?_)
 refine au (cl (n:=1) VJ rfl fun p2=>?_)
 refine U 5231675 ?_;refine ap (fun h116=>?_) fun h116=>?_
 ·refine gY ?_;refine lL (.rd 0 (.one 1 (.one 2 .done))) ?_;refine iX (cK 1) ?_
  refine lK (aA 1 ?_)
  refine lK (aA 1 ?_)
  refine U 8700000 ?_
  refine jR (kq (eA (hres:=bB rfl uY uY) (hv:=?_)))
  have h0:ee b=([],2):=by rw [Zp.1 (show b.length=0 by omega),RQ]
  exact cT (aa.strL (by rw [h0])) (aa.errN (by rw [h0]))
 refine U 810 ?_
 have hne:b≠[]:=fun e=>by subst e;simp_all
 refine dP ?_
 refine au (cl (n:=1) Kq rfl fun p3=>?_)
 refine U 1675 ?_
 refine au (ry (Qi b) ?_)
 rintro _ _ ⟨gS,rfl,rfl⟩
 refine U 205 ?_;refine jE (eE 0 (m:=1) (F:=fun _=>an []) rfl (YG _) (fun _=>rfl) (fun j hj=>by obtain rfl:j=0:=O;exact I)) ?_;refine jE (eE 1 (m:=1) (F:=fun _=>.c .nilIface) rfl (YG _) (fun _=>rfl) (fun j hj=>by obtain rfl:j=0:=O;exact I)) ?_;refine jE (eE 2 (m:=1) (F:=fun _=>.os 3 none 0 0 1) rfl (YG _) (fun _=>rfl) (fun j hj=>by obtain rfl:j=0:=O;exact aa.nilO)) ?_;refine jE (gL (qC [])) ?_;refine xy (π:=List Int×Option Nat) (q:=List Int×Option Nat) ((bK b).length) (fun k=>[aV ((bK b).getD k [])]) ([(gS,.blk 1 (fun _=>aV b))]) (fun (X,ga)=>[(p1,.blk 1 (fun _=>an [])),(p2,.blk 1 (fun _=>.c .nilIface)),(p3,.blk 1 (fun _=>.os 3 ga 0 X.length 1)),(ga,.blk X.length (qC X))]) (fun k (X,ga)=>X=cF (((fo b).take k).map (·.1))∧fw ((fo b).take k)=0) (fun (X,ga)=>[(p1,.blk 1 (fun _=>an [])),(p2,.blk 1 (fun _=>.err (fw (fo b)))),(p3,.blk 1 (fun _=>.os 3 ga 0 X.length 1)),(ga,.blk X.length (qC X))]) (fun c _=>c=.ret∧fw (fo b)≠0) (([],none)) [3,0,1,2,4] rfl rfl (by kernel_rfl) (H6 b gS O) (⟨rfl,rfl⟩) jD rfl (fun _ _=>rfl) rfl ?_ ?_ ?_
 ·intro k hk l al2 w2 F2 S2 R0 R1
  rintro ⟨X,ga⟩ ⟨hX,herr⟩
  have hXl:=Pc (((fo b).take k).map (·.1))
  rw [← hX,Zy,YS] at hXl
  have hkR:k<(fo b).length:=by omega
  have hrun:0<((bK b).getD k []).length:=Lx b.length b (YG _) _ (eO [] hk)
  have hat:=wt hk
  have hX0:X.length>0↔0<k:=⟨fun h=>bvx fun e=>by subst e;rw [hX] at h;simp [cF] at h,fun h=>by have:=hXl.2 (fun e=>by have:=Y3 List.length e;rw [Zy,YS,List.length_nil] at this;omega);omega⟩
  refine U 51200 ?_;refine uN ?_;refine U 523506720 ?_;refine ap (fun h121=>?_) fun h121=>?_
  ·refine U 16 ?_
   refine au (ar (zf ((bK b).getD k []) 2147483647 hrun O) ?_)
   refine U 55000001675119009001 ?_;refine ap (fun h123=>?_) fun h123=>?_
   ·refine U 16 ?_
    refine aq (aA 1 ?_)
    refine aq (aA 1 ?_)
    refine U 50003000300070005 ?_;refine pQ ((X,ga)) ?_ rfl ?_
    ·exact ⟨rfl,XN hk O herr (by assumption)⟩
    ·exact .blk rfl (fun j hj=>by obtain rfl:j=0:=O;exact I) (.blk rfl (fun j hj=>by obtain rfl:j=0:=O;exact aa.errN (Tq hk O herr (by assumption)).symm) (.same (.same (.same .nil))))
   refine U 1506810 ?_
   refine au (aY 1 1 uh fun p4=>?_)
   refine aq (aF pP (l2:=[((dM ((bK b).getD k []) 2147483647).1:Int)]) rfl rfl rfl rfl (by exact ZR (Ze _)) (fun _ _=>I) (aW rfl (.inl rfl) jD) rfl (Br (.cons (cI (rfl)) .nil)) Tryz.underlying106 sd PZ uh So rfl (by (simp;omega)) (by (simp;omega)) (bC rfl rfl) rfl rfl (Ze _) (fun p5=>?_))
   refine aq (aA 1 ?_)
   refine U 4000200060005 ?_;refine rc ((X++[((dM ((bK b).getD k []) 2147483647).1:Int)],p5)) ?_ rfl ?_
   ·exact Ws hk O hX herr O
   ·exact .same (.same (.blk rfl (fun j hj=>by obtain rfl:j=0:=O;exact I) (.same (.same .nil))))
  refine U 16810 ?_
  refine au (ar (zf ((bK b).getD k []) 2147483727 hrun O) ?_)
  refine U 55000001675119009001 ?_;refine ap (fun h130=>?_) fun h130=>?_
  ·refine U 16 ?_
   refine aq (aA 1 ?_)
   refine aq (aA 1 ?_)
   refine U 5000300070005 ?_;refine pQ ((X,ga)) ?_ rfl ?_
   ·exact ⟨rfl,XO hk O herr (by assumption)⟩
   ·exact .blk rfl (fun j hj=>by obtain rfl:j=0:=O;exact I) (.blk rfl (fun j hj=>by obtain rfl:j=0:=O;exact aa.errN (Tr hk O herr (by assumption)).symm) (.same (.same (.same .nil))))
  refine U 810 ?_
  have hbd:=Rf ((bK b).getD k []) 2147483727
  refine U 60000016 ?_;refine jq (QH rfl rfl rfl) ?_;refine U 9911120051 ?_
  refine au (aY 2 1 uh fun p4=>?_)
  refine aI (cn [0,1,2,5,4] jD rfl) ?_
  refine aq (aA 1 ?_)
  refine U 4005 ?_;refine rc (([((min ((dM ((bK b).getD k []) 2147483727).1 / 40) 2:Nat):Int),((dM ((bK b).getD k []) 2147483727).1:Int)-40 * ((min ((dM ((bK b).getD k []) 2147483727).1 / 40) 2:Nat):Int)],p4)) ?_ rfl ?_
  ·exact Wt hk O herr O
  ·exact .same (.same (.blk rfl (fun j hj=>by obtain rfl:j=0:=O;exact cO rfl) (.blk rfl (PT O O) (.same .nil))))
 ·rintro ⟨X,ga⟩ ⟨hX,herr⟩
  rw [Y0 O] at hX herr
  refine U 5068400 ?_;refine aI (freeze 3 rfl) ?_;refine aI (oV 50 X rfl rfl rfl (ZO (YG _)) (fun j hj=>I)) ?_
  refine au (ar (Mr X) ?_)
  refine U 900900 ?_
  refine aq (aA 1 ?_)
  refine aq (aA 1 ?_)
  refine U 5 ?_
  refine jR (eA (hres:=bB rfl uY uY) (hv:=?_))
  have hg:=N2 hne herr
  rw [← hX] at hg
  exact cT (aa.strL (by rw [hg])) (aa.errN (by rw [hg]))
 ·rintro _ ⟨X,ga⟩ ⟨rfl,hbad⟩
  refine .inl ⟨rfl,?_⟩
  refine Jq (kq (eA (hres:=bB rfl uY uY) (hv:=?_)))
  have hb:=RR hne hbad
  exact cT (aa.strL (by rw [hb])) (aa.errN (by rw [hb]))
end
section
variable {gs:List Nat} [gQ gs]
open Go.RowKit Cal
set_option linter.unusedVariables false
end
section
open Go.RowKit Cal
def dg (b:Z) (i:Nat):Int:=((b.getD i 0).toNat:Int)-48
def Jt (b:Z) (i:Nat):Prop:=48≤((b.getD i 0).toNat:Int)∧((b.getD i 0).toNat:Int)≤57
instance (b:Z) (i:Nat):Decidable (Jt b i):=by unfold Jt;infer_instance
def two (b:Z) (j:Nat):Int:=10 * dg b (2 * j)+dg b (2 * j+1)
def eJ (b:Z):D6:=⟨100 * two b 0+two b 1,two b 2,two b 3,two b 4,two b 5,two b 6⟩
def xl (b:Z):Prop:=b.length=15∧((b.getD 14 0).toNat:Int)=90∧∀ i,i<14→Jt b i
instance (b:Z):Decidable (xl b):=by unfold xl;infer_instance
def yf (b:Z):Nat:=if xl b then (if lV (eJ b) then 0 else 1) else 4
def uZ (b:Z):Int:=if xl b∧lV (eJ b) then AJ (eJ b) else 0

theorem Hb {x:D6} (h:lV x):(∀ i,i<14→Jt (fJ x) i)∧eJ (fJ x)=x:=by
 obtain ⟨q1,q2,q3,q4,q5,q6,q7,q8,q9,q10⟩:=id h
 have qm:=sQ q3 q4
 have qd:=Sk x.y x.m
 have q:∀ n p:Int,0≤n→1≤p→((Dy n p).toNat:Int)=48+n / p % 10:=fun n p hn hp=>Ok (Int.ediv_nonneg hn O)
 have e:∀ i,i<14→∃ n p:Int,(fJ x).getD i 0=Dy n p∧0≤n∧1≤p:=by
  intro i hi
  rcases i with _|_|_|_|_|_|_|_|_|_|_|_|_|_|i
  ·exact ⟨x.y,1000,rfl,by omega,by omega⟩
  ·exact ⟨x.y,100,rfl,by omega,by omega⟩
  ·exact ⟨x.y,10,rfl,by omega,by omega⟩
  ·exact ⟨x.y,1,rfl,by omega,by omega⟩
  ·exact ⟨x.m,10,rfl,by omega,by omega⟩
  ·exact ⟨x.m,1,rfl,by omega,by omega⟩
  ·exact ⟨x.d,10,rfl,by omega,by omega⟩
  ·exact ⟨x.d,1,rfl,by omega,by omega⟩
  ·exact ⟨x.h,10,rfl,by omega,by omega⟩
  ·exact ⟨x.h,1,rfl,by omega,by omega⟩
  ·exact ⟨x.mi,10,rfl,by omega,by omega⟩
  ·exact ⟨x.mi,1,rfl,by omega,by omega⟩
  ·exact ⟨x.s,10,rfl,by omega,by omega⟩
  ·exact ⟨x.s,1,rfl,by omega,by omega⟩
  ·omega
 refine ⟨fun i hi=>?_,?_⟩
 ·obtain ⟨n,p,h1,h2,h3⟩:=e i hi
  unfold Jt
  rw [h1,q n p h2 h3]
  omega
 ·have dd:∀ (i:Nat) (n p:Int),(fJ x).getD i 0=Dy n p→0≤n→1≤p→dg (fJ x) i=n / p % 10:=fun i n p h1 h2 h3=>by
   unfold dg
   rw [h1,q n p h2 h3]
   omega
  have t0:two (fJ x) 0=10 * (x.y / 1000 % 10)+x.y / 100 % 10:=by unfold two;rw [dd (2 * 0) x.y 1000 rfl O O,dd (2 * 0+1) x.y 100 rfl O O]
  have t1:two (fJ x) 1=10 * (x.y / 10 % 10)+x.y / 1 % 10:=by unfold two;rw [dd (2 * 1) x.y 10 rfl O O,dd (2 * 1+1) x.y 1 rfl O O]
  have t2:two (fJ x) 2=x.m:=by unfold two;rw [dd (2 * 2) x.m 10 rfl O O,dd (2 * 2+1) x.m 1 rfl O O];omega
  have t3:two (fJ x) 3=x.d:=by unfold two;rw [dd (2 * 3) x.d 10 rfl O O,dd (2 * 3+1) x.d 1 rfl O O];omega
  have t4:two (fJ x) 4=x.h:=by unfold two;rw [dd (2 * 4) x.h 10 rfl O O,dd (2 * 4+1) x.h 1 rfl O O];omega
  have t5:two (fJ x) 5=x.mi:=by unfold two;rw [dd (2 * 5) x.mi 10 rfl O O,dd (2 * 5+1) x.mi 1 rfl O O];omega
  have t6:two (fJ x) 6=x.s:=by unfold two;rw [dd (2 * 6) x.s 10 rfl O O,dd (2 * 6+1) x.s 1 rfl O O];omega
  unfold eJ
  rw [t0,t1,t2,t3,t4,t5,t6]
  have:100 * (10 * (x.y / 1000 % 10)+x.y / 100 % 10)+(10 * (x.y / 10 % 10)+x.y / 1 % 10)=x.y:=by omega
  rw [this]
theorem Dp {x:D6} (h:lV x):yf (fJ x)=0∧uZ (fJ x)=AJ x:=by
 have hf:xl (fJ x):=⟨rfl,by show (((90:UInt8).toNat:Nat):Int)=90;rfl,(Hb h).1⟩
 have hg:=(Hb h).2
 unfold yf uZ
 rw [hg,YF hf,YF h,YF ⟨hf,h⟩]
 exact ⟨rfl,rfl⟩

end
section
variable {gs:List Nat} [gQ gs]
open Go.RowKit Cal
set_option linter.unusedVariables false
set_option linter.unusedVariables false

end
section
variable {gs:List Nat} [gQ gs]

theorem Ft (n:Nat) (l:YD) (k:Nat) (hl:0<l.length∧l.length≤1000000) (hb:(aB l).length≤10000000) :
  AC gs Tryz.prog 60 [el n l k] [.op 0 (some n) 0]
   (fun r H'=>r=.c (.int .i64 (if (ab 3 l k).is=true∧(aZ (ab 3 l k).body).2=0 then (((aZ (ab 3 l k).body).1:Nat):Int) else 0))∧H'=[el n (ab 3 l k).l (eF 3 l k fun b=>(aZ b).2)]):=by
 refine aj 5 Tryz.func60 fun al w0 F0 St0=>?_;refine U 16516 ?_
 refine aq (aQ 0 (yz (m:=0) (fv:=fun _=>.top) (by kernel_rfl) n l k 3 (fun b=>(((aZ b).1:Nat),(aZ b).2)) hl hb (fun b _=>KP b)) ?_ (ho:=rfl) (he:=(.cons (se rfl cP) (.cons (se rfl I) (.cons (se rfl aa.fn0) .nil)))))
 refine U 700051 ?_
 exact aJ (.inl rfl) rfl (av rfl (ak rfl)) I
theorem Mw (n:Nat) (l:YD) (k:Nat) (hl:0<l.length∧l.length≤1000000) (hb:(aB l).length≤10000000) :
  AC gs Tryz.prog 170 [el n l k] [.op 0 (some n) 0]
   (fun r H'=>r=an (if (ab 6 l k).is=true∧(ee (ab 6 l k).body).2=0 then (ee (ab 6 l k).body).1 else [])∧H'=[el n (ab 6 l k).l (eF 6 l k fun b=>(ee b).2)]):=by
 refine aj 5 Tryz.func170 fun al w0 F0 St0=>?_;refine U 16516 ?_
 refine aq (aQ 0 (yy (m:=0) (fv:=fun _=>.top) (by kernel_rfl) n l k 6 ee hl hb (fun b h=>Q7 b O)) ?_ (ho:=rfl) (he:=(.cons (se rfl cP) (.cons (se rfl I) (.cons (se rfl aa.fn0) .nil)))))
 refine U 700051 ?_
 exact aJ (.inl rfl) rfl (av rfl (ak rfl)) I

def iW (least most:Int) (b:Z):Z×Nat:=if (b.length:Int)<least then ([],2) else if most<(b.length:Int) then ([],3) else (b,0)
theorem CQ (n:Nat) (l:YD) (k:Nat) (least most:Int) (hl:0<l.length∧l.length≤1000000) (hb:(aB l).length≤10000000) :
  AC gs Tryz.prog 59 [el n l k] [.op 0 (some n) 0,.c (.int .i64 least),.c (.int .i64 most)]
   (fun r H'=>r=aV (if (ab 4 l k).is=true∧(iW least most (ab 4 l k).body).2=0 then (iW least most (ab 4 l k).body).1 else [])∧H'=[el n (ab 4 l k).l (eF 4 l k fun b=>(iW least most b).2)]):=by
 have g:∀ b:Z,cc gs Tryz.prog 123 (aV b::(List.range 2).map (PU least most)) (.tup 2 (fl [aV (iW least most b).1,.err (iW least most b).2])):=fun b=>by
  refine aj 19 Tryz.func123 fun al w0 F0 St0=>?_;refine U 512603162075116 ?_;refine ap (fun h260=>?_) fun h260=>?_
  ·refine gY ?_;refine dY (.rd 0 (.rd 1 (.rd 2 .done))) ?_;refine aM (cK 1) ?_;refine U 80003000500070008807070 ?_
   have e:iW least most b=([],2):=by unfold iW;rw [jP]
   rw [e]
   exact cT cN I
  refine U 51260316 ?_;refine ap (fun h262=>?_) fun h262=>?_
  rotate_left
  ·refine U 8000700051116840010 ?_
   have e:iW least most b=(b,0):=by unfold iW;rw [jK,jK]
   rw [e]
   exact cT I aa.nil
  refine gY ?_;refine dY (.rd 0 (.rd 1 (.rd 2 .done))) ?_;refine aM (cK 2) ?_;refine U 80003000500070008807070 ?_
  have e:iW least most b=([],3):=by unfold iW;rw [jK,jP]
  rw [e]
  exact cT cN I
 refine aj 10 Tryz.func59 fun al w0 F0 St0=>?_;refine dP ?_
 refine au (ff 1 fun p1=>?_)
 refine au (ff 1 fun p2=>?_)
 refine U 51 ?_;refine jE (freeze 1 rfl) ?_;refine jE (freeze 2 rfl) ?_;refine jE (lD 4 (m:=1) rfl rfl jD) ?_;refine jE (lD 5 (m:=1) rfl rfl jD) ?_;refine U 16 ?_;refine jq Nr ?_
 refine aq (aQ 0 (Ht (fv:=PU least most) (by kernel_rfl) n l k 4 (iW least most) hl hb (fun b _=>g b)) ?_ (ho:=rfl) (he:=(.cons (se rfl cP) (.cons (se rfl I) (.cons (se rfl (aa.fn2' (aa.rp sw) (aa.rp sw))) .nil)))))
 refine U 700051 ?_
 exact aJ (.inl rfl) rfl (av rfl (ak rfl)) I
theorem Hw [qI gs] (n:Nat) (l:YD) (k:Nat) (most:Int) (hl:0<l.length∧l.length≤1000000) (hb:(aB l).length≤10000000) :
  AC gs Tryz.prog 64 [el n l k] [.op 0 (some n) 0,.c (.int .i64 most)]
   (fun r H'=>r=an (if (ab 12 l k).is=true∧ay (ab 12 l k).body most=0 then (if ay (ab 12 l k).body most=0 then (ab 12 l k).body else []) else [])∧H'=[el n (ab 12 l k).l (eF 12 l k fun b=>ay b most)]):=by
 have g:∀ b:Z,b.length≤65530→cc gs Tryz.prog 130 (aV b::(List.range 1).map (fl [.rp 1 fun _=>.c (.int .i64 most)])) (.tup 2 (fl [an (if ay b most=0 then b else []),.err (ay b most)])):=fun b hb=>by
  refine aj 10 Tryz.func130 fun al w0 F0 St0=>?_;refine U 60165116 ?_
  refine au (ar (PB b most O) ?_)
  refine U 511900900 ?_
  refine jR eA
 refine aj 8 Tryz.func64 fun al w0 F0 St0=>?_;refine dP ?_
 refine au (ff 1 fun p1=>?_)
 refine U 51 ?_;refine jE (freeze 1 rfl) ?_;refine jE (lD 3 (m:=1) rfl rfl jD) ?_;refine U 16 ?_;refine jq Nr ?_
 refine aq (aQ 0 (yy (fv:=fl [.rp 1 fun _=>.c (.int .i64 most)]) (by kernel_rfl) n l k 12 (fun b=>(if ay b most=0 then b else [],ay b most)) hl hb g) ?_ (ho:=rfl) (he:=(.cons (se rfl cP) (.cons (se rfl I) (.cons (se rfl (aa.fn1 (aa.rp sw))) .nil)))))
 refine U 700051 ?_
 exact aJ (.inl rfl) rfl (av rfl (ak rfl)) I
end
section
variable {gs:List Nat} [gQ gs]
open Go.RowKit Cal

structure AA where
 kind:Int
 tag:Int
 least:Int
 most:Int
def nu (a:AA):CV:=.agg 4 (fl [.c (.int .i64 a.kind),.c (.int .i64 a.tag),.c (.int .i64 a.least),.c (.int .i64 a.most)])
def vN (n:Int):VV:=⟨0,n,false,[],[]⟩
def vI (b:Bool):VV:=⟨0,0,b,[],[]⟩
def vB (b:Z):VV:=⟨0,0,false,b,[]⟩
def vT (t:Z):VV:=⟨0,0,false,[],t⟩
def saidM (a:AA) (b:Z):VV×Nat :=
 if a.kind=3 then (vN (aX b a.least a.most).1,(aX b a.least a.most).2) else
 if a.kind=4 then (vN (aX b a.least a.most).1,(aX b a.least a.most).2) else
 if a.kind=5 then (vI (vn b).1,(vn b).2) else
 if a.kind=6 then (vB (iW a.least a.most b).1,(iW a.least a.most b).2) else
 if a.kind=7 then (vT (if ay b a.most=0 then b else []),ay b a.most) else
 if a.kind=8 then (vT (ee b).1,(ee b).2) else
 if a.kind=9 then (vN (uZ b),yf b) else (vN ((aZ b).1:Nat),(aZ b).2)
def bR (a:AA):Int:=if a.kind=3 then 2 else if a.kind=4 then 10 else if a.kind=5 then 1 else if a.kind=6 then 4 else if a.kind=7 then 12 else if a.kind=8 then 6 else if a.kind=9 then 24 else 3
structure Vv where
 l:YD
 k:Nat
 v:VV
def eH (tag:Int) (said:Z→VV×Nat) (l:YD) (k:Nat):Vv :=
 ⟨(ab tag l k).l,eF tag l k fun b=>(said b).2,if (ab tag l k).is=true∧(said (ab tag l k).body).2=0 then (said (ab tag l k).body).1 else VV.none⟩
def ac (a:AA) (l:YD) (k:Nat):Vv :=
 if a.kind=1 then ⟨ah a.tag l k,(ae a.tag l k).k,vI (ae a.tag l k).is⟩ else
 if a.kind=2 then ⟨bb l k,aC l k,VV.none⟩ else
 if a.kind=11 then ⟨(ab 0 l k).l,(ab 0 l k).k,vB (ab 0 l k).raw⟩ else eH (bR a) (saidM a) l k
theorem rY {α:Type} (c:α→VV) (z:α) (hz:c z=VV.none) {a:AA} {l:YD} {k:Nat} {t:Int} {f:Z→α×Nat} (h1:a.kind≠1) (h2:a.kind≠2) (h3:a.kind≠11) (hs:saidM a=fun b=>(c (f b).1,(f b).2)) (ht:bR a=t) :
  ac a l k=⟨(ab t l k).l,eF t l k fun b=>(f b).2,c (if (ab t l k).is=true∧(f (ab t l k).body).2=0 then (f (ab t l k).body).1 else z)⟩:=by
 subst ht
 unfold ac
 rw [YE h1,YE h2,YE h3]
 unfold eH
 rw [hs]
 simp only
 split
 ·rfl
 ·rw [hz]
end
section
open Go.RowKit Cal
def dT (l:YD) (k:Nat):Nat:=cp l+if k=0 then 1 else 0
theorem rO (x:Z):∀ {l:YD} {i:Nat},i<l.length→cp (l.set i x)+(l.getD i []).length=cp l+x.length
 | y::l,0,_=>by simp only [List.set_cons_zero,amx,cp,Zc,bEx];omega
 | y::l,i+1,h=>by
  have:=rO x (l:=l) (i:=i) (by simpa using h)
  simp only [List.set_cons_succ,anx,cp,Zc,bEx] at this ⊢
  omega
theorem vf (l:YD):(aB l).length≤cp l:=by
 unfold aB
 by_cases h:l.length-1<l.length
 ·have:=rO [] h
  simp only [List.length_nil] at this
  omega
 ·rw [YH,Y6 O]
  simp
theorem vg {t:Int} {l:YD} {k:Nat} (hl:0<l.length):(k≠0→ab t l k=⟨l,k,0,[],[],false⟩)∧(ab t l k).l.length=l.length∧dT (ab t l k).l (ab t l k).k≤dT l k∧(k=0→dT (ab t l k).l (ab t l k).k<dT l k) ∧
  ((ab t l k).is=true↔(ab t l k).k=0)∧((ab t l k).is=true→k=0)∧((ab t l k).is=false→(ab t l k).l=l):=by
 have hb:=ek (aB l)
 have hs:=rO (af (aB l)).rest (show l.length-1<l.length by omega)
 unfold ab
 by_cases h0:k≠0
 ·rw [YF h0]
  exact ⟨fun _=>rfl,rfl,YG _,fun h=>absurd h h0,by simp [h0],by simp,fun _=>rfl⟩
 ·have hk:k=0:=by omega
  subst hk
  rw [YE h0]
  by_cases h1:(af (aB l)).e≠0
  ·rw [YF h1]
   refine ⟨fun h=>absurd rfl h,rfl,?_,fun _=>?_,by simp [h1],by simp,fun _=>rfl⟩ <;> (unfold dT;dsimp only;rw [YE h1];simp)
  ·rw [YE h1]
   by_cases h2:t≠0∧((af (aB l)).tag:Int)≠t
   ·rw [YF h2]
    refine ⟨fun h=>absurd rfl h,rfl,?_,fun _=>?_,by simp,by simp,fun _=>rfl⟩ <;> (unfold dT;dsimp only;rw [YE jD];simp)
   ·rw [YE h2]
    have hr:=hb.2.2.2.2.2 O
    have e:(l.getD (l.length-1) []).length=(aB l).length:=rfl
    refine ⟨fun h=>absurd rfl h,by simp,?_,fun _=>?_,by simp,by simp,fun h=>absurd h (by simp)⟩ <;> (unfold dT;dsimp only;rw [YF rfl];omega)
theorem I7 (b:Z) (h:(af b).e=0):(af b).body.length+(af b).rest.length<b.length:=by
 have hm:=ro (b.drop 1)
 revert h
 unfold af
 by_cases h0:b.length=0
 ·rw [YF h0];intro h;cases h
 ·rw [YE h0]
  by_cases h1:bI ((b.getD 0 0).toNat:Nat)=false
  ·rw [YF h1];intro h;cases h
  ·rw [YE h1]
   dsimp only
   by_cases h2:(cj (b.drop 1)).e≠0
   ·rw [YF h2];intro h;exact absurd h h2
   ·rw [YE h2]
    by_cases h3:65530<(cj (b.drop 1)).n
    ·rw [YF h3];intro h;cases h
    ·rw [YE h3]
     by_cases h4:(cj (b.drop 1)).rest.length<(cj (b.drop 1)).n
     ·rw [YF h4];intro h;cases h
     ·rw [YE h4]
      intro _
      have:=hm.1
      rw [YN] at this
      simp only [YS,YN]
      omega
theorem f7 {t:Int} {l:YD} {k:Nat} (hl:0<l.length):(k≠0→ah t l k=l∧(ae t l k).k=k)∧dT (ah t l k) (ae t l k).k≤dT l k∧(k=0→dT (ah t l k) (ae t l k).k<dT l k) ∧
  ((ae t l k).k=0→(ah t l k).length=l.length+1)∧((ae t l k).k≠0→(ah t l k).length=l.length)∧((ae t l k).is=true↔(ae t l k).k=0):=by
 have hq:∀ q,q=(if bN l k=true∧bQ t=false then 5 else k)→(k≠0→q=k)∧(k=0→q=0∨q=5):=by
  rintro _ rfl
  refine ⟨fun h=>YE ?_,fun h=>?_⟩
  ·rintro ⟨h1,_⟩
   unfold bN at h1
   simp [h] at h1
  ·subst h;split <;> simp
 unfold ah ae
 generalize hk:(if bN l k=true∧bQ t=false then 5 else k)=q
 obtain ⟨q1,q2⟩:=hq q hk.symm
 obtain ⟨n1,n2,n3,n4,n5,n6,n7⟩:=vg (t:=t) (l:=l) (k:=q) hl
 by_cases hi:(ab t l q).is=true
 ·have hk0:=n5.1 hi
  have hq0:=n6 hi
  subst hq0
  have hkz:k=0:=by rcases arx k with h|h;exact h;exact (q1 O).symm
  subst hkz
  have hb:dT ((ab t l 0).l++[(ab t l 0).body]) (ab t l 0).k<dT l 0:=by
   rw [hk0]
   revert hi
   unfold ab
   rw [YE jD]
   by_cases h1:(af (aB l)).e≠0
   ·rw [YF h1];intro h;cases h
   ·rw [YE h1]
    by_cases h2:t≠0∧((af (aB l)).tag:Int)≠t
    ·rw [YF h2];intro h;cases h
    ·rw [YE h2]
     intro _
     have h3:=I7 (aB l) O
     have h4:=rO (af (aB l)).rest (show l.length-1<l.length by omega)
     have e:(l.getD (l.length-1) []).length=(aB l).length:=rfl
     unfold dT
     dsimp only
     rw [rP,YF rfl]
     simp only [cp,Zc,aAx,bEx,List.sum_nil] at h4 ⊢
     omega
  rw [YF hi]
  refine ⟨fun h=>absurd rfl h,by omega,fun _=>hb,fun _=>by rw [YI,n2];rfl,fun h=>absurd hk0 h,n5⟩
 ·have hi':(ab t l q).is=false:=by simpa using hi
  have hl':=n7 hi'
  have hk0:(ab t l q).k≠0:=fun h=>hi (n5.2 h)
  rw [YE hi,hl']
  refine ⟨fun h=>⟨rfl,?_⟩,?_,fun h=>?_,fun h=>absurd h hk0,fun _=>rfl,n5⟩
  ·have hq:=q1 h
   rw [n1 O]
   exact hq
  ·unfold dT;rw [YE hk0];simp
  ·unfold dT;rw [YE hk0,YF h];simp
theorem lH {l:YD} {k:Nat} (hl:0<l.length):(k≠0→bb l k=l∧aC l k=k)∧dT (bb l k) (aC l k)≤dT l k∧(aC l k=0→k=0∧(bb l k).length+1=l.length∧1<l.length)∧(aC l k≠0→bb l k=l):=by
 have hk:(k≠0→aC l k=k):=fun h=>by unfold aC;rw [YF h]
 have h0:aC l k=0→k=0∧1<l.length:=fun h=>by
  unfold aC at h
  by_cases h1:k≠0
  ·rw [YF h1] at h;exact absurd h h1
  ·rw [YE h1] at h
   by_cases h2:l.length=1
   ·rw [YF h2] at h;cases h
   ·exact ⟨by omega,by omega⟩
 refine ⟨fun h=>⟨by unfold bb;rw [hk h,YE h],hk h⟩,?_,fun h=>?_,fun h=>by unfold bb;rw [YE h]⟩
 ·unfold bb
  by_cases h:aC l k=0
  ·have h1:=h0 h
   rw [YF h]
   unfold dT
   rw [YF h,YF h1.1]
   have h2:=pH (ls:=l) (i:=l.length-1) O
   have h3:l.take (l.length-1+1)=l:=Y0 O
   rw [h3] at h2
   omega
  ·rw [YE h]
   unfold dT
   rw [YE h]
   omega
 ·have h1:=h0 h
  unfold bb
  rw [YF h,YS]
  exact ⟨h1.1,by omega,h1.2⟩
theorem gr (a:AA) {l:YD} {k:Nat} (hl:0<l.length):(k≠0→(ac a l k).l=l∧(ac a l k).k=k)∧dT (ac a l k).l (ac a l k).k≤dT l k∧(k=0→a.kind≠2→dT (ac a l k).l (ac a l k).k<dT l k) ∧
  (a.kind=1→((ac a l k).k=0→(ac a l k).l.length=l.length+1)∧((ac a l k).k≠0→(ac a l k).l.length=l.length)) ∧
  (a.kind=2→((ac a l k).k=0→(ac a l k).l.length+1=l.length∧1<l.length)∧((ac a l k).k≠0→(ac a l k).l.length=l.length)) ∧
  (a.kind≠1→a.kind≠2→(ac a l k).l.length=l.length)∧((ac a l k).k=0→k=0):=by
 unfold ac
 by_cases h1:a.kind=1
 ·rw [YF h1]
  obtain ⟨e1,e2,e3,e4,e5,e6⟩:=f7 (t:=a.tag) (l:=l) (k:=k) hl
  exact ⟨e1,e2,fun h _=>e3 h,fun _=>⟨e4,e5⟩,fun h=>by omega,fun h=>absurd h1 h,fun h=>bbx fun hk=>by have h3:=(e1 O).2;have h4:(ae a.tag l k).k=0:=h;omega⟩
 ·rw [YE h1]
  by_cases h2:a.kind=2
  ·rw [YF h2]
   obtain ⟨e1,e2,e3,e4⟩:=lH (l:=l) (k:=k) hl
   exact ⟨e1,e2,fun _ h=>absurd h2 h,fun h=>by omega,fun _=>⟨fun h=>(e3 h).2,fun h=>by dsimp only;rw [e4 h]⟩,fun _ h=>absurd h2 h,fun h=>(e3 h).1⟩
  ·rw [YE h2]
   have key:∀ (t:Int) (e:Nat),(k≠0→e=(ab t l k).k)→(e=0→(ab t l k).k=0)→(k≠0→(ab t l k).l=l∧e=k)∧dT (ab t l k).l e≤dT l k∧(k=0→dT (ab t l k).l e<dT l k)∧(ab t l k).l.length=l.length∧(e=0→k=0):=fun t e h3 h4=>by
    obtain ⟨n1,n2,n3,n4,n5,n6,n7⟩:=vg (t:=t) (l:=l) (k:=k) hl
    have hm:dT (ab t l k).l e≤dT (ab t l k).l (ab t l k).k:=by
     unfold dT
     by_cases h:e=0
     ·rw [YF h,YF (h4 h)];exact YG _
     ·rw [YE h];omega
    refine ⟨fun h=>⟨by rw [n1 h],by rw [h3 h,n1 h]⟩,by omega,fun h=>by have:=n4 h;omega,n2,fun h=>n6 (n5.2 (h4 h))⟩
   by_cases h3:a.kind=11
   ·rw [YF h3]
    obtain ⟨e1,e2,e3,e4,e5⟩:=key 0 (ab 0 l k).k (fun _=>rfl) id
    exact ⟨e1,e2,fun h _=>e3 h,fun h=>absurd h h1,fun h=>absurd h h2,fun _ _=>e4,e5⟩
   ·rw [YE h3]
    unfold eH
    have hv:∀ f:Z→Nat,(k≠0→eF (bR a) l k f=(ab (bR a) l k).k)∧(eF (bR a) l k f=0→(ab (bR a) l k).k=0):=fun f=>by
     obtain ⟨n1,n2,n3,n4,n5,n6,n7⟩:=vg (t:=bR a) (l:=l) (k:=k) hl
     unfold eF
     refine ⟨fun h=>YE fun hi=>h (n6 hi),fun h=>?_⟩
     by_cases hi:(ab (bR a) l k).is=true
     ·exact n5.1 hi
     ·rw [YE hi] at h;exact h
    obtain ⟨e1,e2,e3,e4,e5⟩:=key (bR a) (eF (bR a) l k fun b=>(saidM a b).2) (hv _).1 (hv _).2
    exact ⟨e1,e2,fun h _=>e3 h,fun h=>absurd h h1,fun h=>absurd h h2,fun _ _=>e4,e5⟩
abbrev nv (α:Type):=YD→Nat→(YD×Nat)×α
structure lU {α:Type} (sp:nv α):Prop where
 mu:∀ l k,0<l.length→bN l k=true→dT (sp l k).1.1 (sp l k).1.2<dT l k
 len:∀ l k,0<l.length→bN l k=true→(sp l k).1.2=0→(sp l k).1.1.length=l.length
 grow:∀ l k,0<l.length→bN l k=true→l.length≤(sp l k).1.1.length∧(sp l k).1.1.length≤l.length+16
section
variable {α:Type} (sp:nv α) (l0:YD) (k0:Nat) (most:Int)
def aD:Nat→(YD×Nat)×List α
 | 0=>((l0,k0),[])
 | j+1=>((sp (aD j).1.1 (aD j).1.2).1,(aD j).2++[(sp (aD j).1.1 (aD j).1.2).2])
def ma (j:Nat):Bool:=bN (aD sp l0 k0 j).1.1 (aD sp l0 k0 j).1.2 && decide ((j:Int)<most)
def tR (p:Nat→Bool):Nat→Nat→Nat
 | 0,j=>j
 | n+1,j=>if p j=true then tR p n (j+1) else j
theorem uD (p:Nat→Bool):∀ n j,(∀ i,i<j→p i=true)→(∀ i,i<tR p n j→p i=true)∧(p (tR p n j)=false∨tR p n j=j+n)
 | 0,j,h=>⟨h,.inr rfl⟩
 | n+1,j,h=>by
  unfold tR
  by_cases hp:p j=true
  ·rw [YF hp]
   obtain ⟨h1,h2⟩:=uD p n (j+1) (fun i hi=>if e:i=j then e ▸ hp else h i O)
   exact ⟨h1,h2.imp id (fun e=>by omega)⟩
  ·rw [YE hp]
   exact ⟨h,.inl (by simpa using hp)⟩
def jG:Nat:=tR (ma sp l0 k0 most) (dT l0 k0+1) 0
def co:YD×Nat :=
 let s:=(aD sp l0 k0 (jG sp l0 k0 most)).1
 if bN s.1 s.2=true then (bb s.1 3,aC s.1 3) else (bb s.1 s.2,aC s.1 s.2)
theorem nD:∀ j,(aD sp l0 k0 j).2.length=j
 | 0=>rfl
 | j+1=>by
  show (_++[_]).length=_
  rw [YI,nD j];rfl
variable {sp l0 k0 most}
theorem lF (ok:lU sp) (hl:0<l0.length):∀ j,(∀ i,i<j→ma sp l0 k0 most i=true)→dT (aD sp l0 k0 j).1.1 (aD sp l0 k0 j).1.2+j≤dT l0 k0∧((aD sp l0 k0 j).1.2=0→(aD sp l0 k0 j).1.1.length=l0.length)∧l0.length≤(aD sp l0 k0 j).1.1.length∧(aD sp l0 k0 j).1.1.length≤l0.length+16
 | 0,_=>⟨YG _,fun _=>rfl,YG _,by show l0.length≤l0.length+16;omega⟩
 | j+1,h=>by
  obtain ⟨h1,h2,h3,h4⟩:=lF ok hl j fun i hi=>h i O
  have hg:=h j O
  unfold ma at hg
  rw [YK] at hg
  have hk:=(gH hg.1).1
  have hlen:=h2 hk
  have hp:0<(aD sp l0 k0 j).1.1.length:=by omega
  have m1:=ok.mu _ _ hp hg.1
  have m2:=ok.len _ _ hp hg.1
  have m3:=ok.grow _ _ hp hg.1
  show dT (sp (aD sp l0 k0 j).1.1 (aD sp l0 k0 j).1.2).1.1 (sp (aD sp l0 k0 j).1.1 (aD sp l0 k0 j).1.2).1.2+(j+1)≤_∧((sp (aD sp l0 k0 j).1.1 (aD sp l0 k0 j).1.2).1.2=0→(sp (aD sp l0 k0 j).1.1 (aD sp l0 k0 j).1.2).1.1.length=_)∧_≤(sp (aD sp l0 k0 j).1.1 (aD sp l0 k0 j).1.2).1.1.length∧(sp (aD sp l0 k0 j).1.1 (aD sp l0 k0 j).1.2).1.1.length≤_
  exact ⟨by omega,fun e=>by rw [m2 e,hlen],by omega,by omega⟩
theorem nV (ok:lU sp) (hl:0<l0.length):(∀ i,i<jG sp l0 k0 most→ma sp l0 k0 most i=true)∧ma sp l0 k0 most (jG sp l0 k0 most)=false:=by
 obtain ⟨h1,h2⟩:=uD (ma sp l0 k0 most) (dT l0 k0+1) 0 (fun i hi=>absurd hi (YW i))
 refine ⟨h1,?_⟩
 rcases h2 with h2|h2
 ·exact h2
 ·have:=(lF ok hl _ h1).1
  rw [h2] at this
  omega
theorem lN (ok:lU sp) (hl:0<l0.length) {j:Nat} (h1:∀ i,i<j→ma sp l0 k0 most i=true) (h2:ma sp l0 k0 most j=false):jG sp l0 k0 most=j:=by
 obtain ⟨h3,h4⟩:=nV (k0:=k0) (most:=most) ok hl
 rcases a7x (jG sp l0 k0 most) j with h|h|h
 ·rw [h1 _ h] at h4;cases h4
 ·exact h
 ·rw [h3 _ h] at h2;cases h2
end
theorem oF {n:Nat} {x:UInt8} (h:n % 256=x.toNat):b8 n=x:=Zq.1 (by rw [fS,h])
theorem M1 {x:Z} (h:x.length=1):x=[x.getD 0 0]:=by
 match x,h with
 | [a],_=>rfl
theorem M0 {x:Z} (h:x.length=2):x=[x.getD 0 0,x.getD 1 0]:=by
 match x,h with
 | [a,b],_=>rfl
theorem Fc {x:Z} (h:x.length=3):x=[x.getD 0 0,x.getD 1 0,x.getD 2 0]:=by
 match x,h with
 | [a,b,c],_=>rfl
theorem Jh {x:Z} (h:x.length=4):x=[x.getD 0 0,x.getD 1 0,x.getD 2 0,x.getD 3 0]:=by
 match x,h with
 | [a,b,c,d],_=>rfl
theorem E7 {b:Z} (h:(cj b).e=0):b=ie (cj b).n++(cj b).rest:=by
 revert h
 unfold cj
 by_cases h0:b.length=0
 ·rw [YF h0];intro h;cases h
 ·rw [YE h0]
  dsimp only
  have hb:b=b.getD 0 0::b.drop 1:=by
   match b,h0 with
   | c::r,_=>rfl
  generalize hc:b.getD 0 0=c at hb ⊢
  generalize hr:b.drop 1=r at hb ⊢
  subst hb
  have hc8:=c.toNat_lt
  by_cases h1:c.toNat≤127
  ·rw [YF h1]
   intro _
   unfold ie
   dsimp only
   rw [jP]
   rw [oF (show c.toNat % 256=c.toNat by omega)]
   rfl
  ·rw [YE h1]
   by_cases h2:c.toNat=128∨132<c.toNat
   ·rw [YF h2];intro h;cases h
   ·rw [YE h2]
    by_cases h3:r.length<c.toNat-128
    ·rw [YF h3];intro h;cases h
    ·rw [YE h3]
     by_cases h4:mM (r.take (c.toNat-128))≤127∨(r.getD 0 0).toNat=0
     ·rw [YF h4];intro h;cases h
     ·rw [YE h4]
      intro _
      dsimp only
      obtain ⟨h5,h6⟩:=not_or.1 h4
      have hd:c::r=c::(r.take (c.toNat-128)++r.drop (c.toNat-128)):=by rw [Zu]
      have hl:(r.take (c.toNat-128)).length=c.toNat-128:=by rw [YS];omega
      have h0r:(r.take (c.toNat-128)).getD 0 0=r.getD 0 0:=by
       simp only [YH,ZV]
       rw [jP]
      rw [hd]
      rw [← h0r] at h6
      generalize r.drop (c.toNat-128)=q at *
      generalize r.take (c.toNat-128)=x at *
      have hcx:c=b8 c.toNat:=(oF O).symm
      obtain e|e|e|e:c.toNat=129∨c.toNat=130∨c.toNat=131∨c.toNat=132:=by omega
      ·have hx:=M1 (x:=x) O
       generalize x.getD 0 0=x0 at hx h6
       subst hx
       have h7:=x0.toNat_lt
       simp only [mM,aRx,aZx,ZQ,Nat.zero_add] at h5 ⊢
       unfold ie
       rw [jK,jP,oF (show x0.toNat % 256=x0.toNat by omega),hcx,e]
       rfl
      ·have hx:=M0 (x:=x) O
       generalize x.getD 0 0=x0 at hx h6
       generalize x.getD 1 0=x1 at hx
       subst hx
       have h7:=x0.toNat_lt
       have h8:=x1.toNat_lt
       simp only [mM,aRx,aZx,ZQ,Nat.zero_add] at h5 ⊢
       unfold ie
       rw [jK,jK,jP,oF (show (x0.toNat * 256+x1.toNat) / 256 % 256=x0.toNat by omega),oF (show (x0.toNat * 256+x1.toNat) % 256=x1.toNat by omega),hcx,e]
       rfl
      ·have hx:=Fc (x:=x) O
       generalize x.getD 0 0=x0 at hx h6
       generalize x.getD 1 0=x1 at hx
       generalize x.getD 2 0=x2 at hx
       subst hx
       have h7:=x0.toNat_lt
       have h8:=x1.toNat_lt
       have h9:=x2.toNat_lt
       simp only [mM,aRx,aZx,ZQ,Nat.zero_add] at h5 ⊢
       unfold ie
       rw [jK,jK,jK,jP,oF (show ((x0.toNat * 256+x1.toNat) * 256+x2.toNat) / 65536 % 256=x0.toNat by omega),oF (show ((x0.toNat * 256+x1.toNat) * 256+x2.toNat) / 256 % 256=x1.toNat by omega),oF (show ((x0.toNat * 256+x1.toNat) * 256+x2.toNat) % 256=x2.toNat by omega),hcx,e]
       rfl
      ·have hx:=Jh (x:=x) O
       generalize x.getD 0 0=x0 at hx h6
       generalize x.getD 1 0=x1 at hx
       generalize x.getD 2 0=x2 at hx
       generalize x.getD 3 0=x3 at hx
       subst hx
       have h7:=x0.toNat_lt
       have h8:=x1.toNat_lt
       have h9:=x2.toNat_lt
       have h10:=x3.toNat_lt
       simp only [mM,aRx,aZx,ZQ,Nat.zero_add] at h5 ⊢
       unfold ie
       rw [jK,jK,jK,jK,oF (show (((x0.toNat * 256+x1.toNat) * 256+x2.toNat) * 256+x3.toNat) / 16777216 % 256=x0.toNat by omega),oF (show (((x0.toNat * 256+x1.toNat) * 256+x2.toNat) * 256+x3.toNat) / 65536 % 256=x1.toNat by omega),oF (show (((x0.toNat * 256+x1.toNat) * 256+x2.toNat) * 256+x3.toNat) / 256 % 256=x2.toNat by omega),oF (show (((x0.toNat * 256+x1.toNat) * 256+x2.toNat) * 256+x3.toNat) % 256=x3.toNat by omega),hcx,e]
       rfl
theorem Mz {b:Z} (h:(af b).e=0):bI ((af b).tag:Nat)=true:=by
 revert h
 unfold af
 by_cases h0:b.length=0
 ·rw [YF h0];intro h;cases h
 ·rw [YE h0]
  by_cases h1:bI ((b.getD 0 0).toNat:Nat)=false
  ·rw [YF h1];intro h;cases h
  ·rw [YE h1]
   dsimp only
   by_cases h2:(cj (b.drop 1)).e≠0
   ·rw [YF h2];intro h;exact absurd h h2
   ·rw [YE h2]
    by_cases h3:65530<(cj (b.drop 1)).n
    ·rw [YF h3];intro h;cases h
    ·rw [YE h3]
     by_cases h4:(cj (b.drop 1)).rest.length<(cj (b.drop 1)).n
     ·rw [YF h4];intro h;cases h
     ·rw [YE h4]
      intro _
      simpa using h1
theorem wO {b:Z} (h:(af b).e=0):b=bL ((af b).tag:Nat) (af b).body++(af b).rest∧bI ((af b).tag:Nat)=true∧(af b).body.length≤65530:=by
 refine ⟨?_,Mz h,(ek b).2.2.1⟩
 revert h
 unfold af
 by_cases h0:b.length=0
 ·rw [YF h0];intro h;cases h
 ·rw [YE h0]
  by_cases h1:bI ((b.getD 0 0).toNat:Nat)=false
  ·rw [YF h1];intro h;cases h
  ·rw [YE h1]
   dsimp only
   by_cases h2:(cj (b.drop 1)).e≠0
   ·rw [YF h2];intro h;exact absurd h h2
   ·rw [YE h2]
    have hm:=E7 (b:=b.drop 1) O
    by_cases h3:65530<(cj (b.drop 1)).n
    ·rw [YF h3];intro h;cases h
    ·rw [YE h3]
     by_cases h4:(cj (b.drop 1)).rest.length<(cj (b.drop 1)).n
     ·rw [YF h4];intro h;cases h
     ·rw [YE h4]
      intro _
      dsimp only
      have hb:b=b.getD 0 0::b.drop 1:=by
       match b,h0 with
       | c::r,_=>rfl
      have hc8:=(b.getD 0 0).toNat_lt
      have e:UInt8.ofNat (((b.getD 0 0).toNat:Nat):Int).toNat=b.getD 0 0:=by
       rw [azx,aCx]
      have hl:((cj (b.drop 1)).rest.take (cj (b.drop 1)).n).length=(cj (b.drop 1)).n:=by rw [YS];omega
      unfold bL
      rw [e,hl,List.cons_append,Zb,Zu,← hm]
      exact hb
theorem CX {t:Int} {l:YD} {k:Nat} (ht:t≠0) (h:(ab t l k).k=0):k=0∧aB l=bL t (ab t l k).body++(af (aB l)).rest∧(ab t l k).l=l.set (l.length-1) (af (aB l)).rest∧bI t=true∧(ab t l k).body.length≤65530∧(ab t l k).is=true:=by
 revert h
 unfold ab
 by_cases h0:k≠0
 ·rw [YF h0];intro h;exact absurd h h0
 ·rw [YE h0]
  by_cases h1:(af (aB l)).e≠0
  ·rw [YF h1];intro h;exact absurd h h1
  ·rw [YE h1]
   by_cases h2:t≠0∧((af (aB l)).tag:Int)≠t
   ·rw [YF h2];intro h;cases h
   ·rw [YE h2]
    intro _
    have h3:=wO (b:=aB l) O
    have e:((af (aB l)).tag:Int)=t:=Z4 fun e=>h2 ⟨ht,e⟩
    rw [e] at h3
    exact ⟨by omega,h3.1,rfl,h3.2.1,h3.2.2,rfl⟩
theorem ES {b:Z} (h:(ee b).2=0):ja (ee b).1=b∧(bH (ee b).1).2=0:=by
 unfold ee at h ⊢
 by_cases h0:(fG b).2=0
 ·rw [YF h0]
  obtain ⟨h1,h2⟩:=QW (b:=b) (l:=(fG b).1) (by rw [← h0])
  have h3:=EO h2
  unfold ja
  dsimp only
  rw [h3]
  exact ⟨by rw [YF rfl];exact h1,rfl⟩
 ·rw [YE h0] at h;exact absurd h h0
theorem Jv {b:Z} (h:(cg b).2=0):kz (cg b).1=b:=by
 obtain ⟨h1,h2⟩:=N7 h
 obtain ⟨h3,h4⟩:=RT h
 rw [← Gs h3 h4 h1]
 exact h2
theorem ur {b:Z} {x y:Int} (h:(aX b x y).2=0):kz (aX b x y).1=b∧(cg b).2=0∧(aX b x y).1=(cg b).1∧x≤(cg b).1∧(cg b).1≤y:=by
 unfold aX at h ⊢
 by_cases h0:(cg b).2≠0
 ·rw [YF h0] at h;exact absurd h h0
 ·rw [YE h0] at h ⊢
  by_cases h1:(cg b).1<x∨y<(cg b).1
  ·rw [YF h1] at h;cases h
  ·rw [YE h1]
   exact ⟨Jv O,by omega,rfl,by omega,by omega⟩
structure Yz (x:Z) (t:Nat) (b:Z):Prop where
 nx:∀ r,af (x++r)=⟨0,t,b,r⟩
 pos:0<x.length
 wh:∀ lv,lv≤16→(bm lv t b).2=0∨(bm lv t b).2=6
def X6 (x:Z):Prop:=∃ t b,Yz x t b
structure X7 (s:W8):Prop where
 fr:∀ f ∈ s.fr,bQ f.1=true∧∀ y ∈ f.2,X6 y
 d:∃ xs:YD,s.d=xs.flatten∧∀ x ∈ xs,X6 x
def f8 (vs:List VV) (s:W8):W8:=vs.foldl (fun s v=>mr v s) s
def LO (vs:List VV) (r:R8):R8:=vs.foldl (fun r v=>oI v r) r
theorem qq (a b:List VV) (s:W8):f8 (a++b) s=f8 b (f8 a s):=by unfold f8;rw [bCx]
theorem xf {i j:Nat} {r:R8} {s:W8} (h:gP i r s) (hij:i≤j):gP j r s :=
 ⟨h.same,by have:=h.w;omega,fun x hx=>by have:=h.rows x hx;omega,h.n⟩
theorem Bo:∀ (vs:List VV) {i:Nat} {r:R8} {s:W8},gP i r s→(∀ v ∈ vs,jY v)→gP (i+vs.length) (LO vs r) (f8 vs s)
 | [],i,r,s,h,_=>h
 | v::vs,i,r,s,h,hv=>by
  have:=Bo vs (mL h (hv v Y2)) fun x hx=>hv x (Y7 _ hx)
  rw [List.length_cons,show i+(vs.length+1)=i+1+vs.length by omega]
  exact this
theorem DQ {v:VV} {s:W8} (h:s.k≠0):mr v s=s:=by
 have e1:∀ e,bZ e s=s:=fun e=>by unfold bZ;rw [YE h]
 unfold mr di dN tk fD
 simp only [e1,h,ne_eq,not_false_iff,if_true,if_false,ite_self]
theorem rE (s:W8):bZ 0 s=s:=by
 unfold bZ
 split
 ·rename_i h;rw [← h]
 ·rfl
theorem Gx {t:Int} {s:W8} (hk:s.k=0) (ht:bQ t=true) (hl:s.fr.length<16):di t s=⟨(t,[])::s.fr,s.d,0⟩:=by
 unfold di
 rw [jK,YE (by rw [ht];decide),jK,hk]
theorem rg {t:Int} {b:Z} {s:W8} (hk:s.k=0) (ht:bI t=true) (hb:b.length≤65530):fD t b 0 s=de (bL t b) s:=by
 unfold fD
 rw [rE,jK,YE (by unfold rh;rw [YE (by rw [ht];decide),jK];decide)]
theorem pz {t:Int} {ls:YD} {fr:List (Int×YD)} {d:Z} (ht:bI t=true) (h9:t≠49) (hb:ls.flatten.length≤65530):dN ⟨(t,ls)::fr,d,0⟩=de (bL t ls.flatten) ⟨fr,d,0⟩:=by
 have hf:nr (t,ls)=ls.flatten:=by unfold nr;rw [YE h9]
 show fD t (nr (t,ls)) 0 ⟨fr,d,0⟩=_
 rw [hf,rg rfl ht hb]
def ny (x:Int×Z):Z:=bL x.1 x.2
structure FS (d:Nat) (x:Int×Z):Prop where
 known:bI x.1=true
 len:x.2.length≤65530
 wh:∀ lv,d≤lv→(bm lv x.1.toNat x.2).2=0
theorem FS.mono {d e:Nat} {x:Int×Z} (h:FS d x) (hd:d≤e):FS e x:=⟨h.known,h.len,fun lv hl=>h.wh lv O⟩
theorem lu {t:Int} {b:Z} (hk:bI t=true) (hm:bQ t=false) (hb:b.length≤65530):FS 1 (t,b) :=
 ⟨hk,hb,fun lv _=>by rw [qV (by rw [aHx (sm hk).1];exact hm)]⟩
theorem DO {x:Int×Z} (hk:bI x.1=true) (hb:x.2.length≤65530) (r:Z):af (ny x++r)=⟨0,x.1.toNat,x.2,r⟩:=wN hk hb
theorem vu (x:Int×Z):0<(ny x).length:=by unfold ny bL;simp
theorem C5 {d lv:Nat} {rec:Nat→Z→Nat×Nat} (hlv:1<lv):∀ (xs:List (Int×Z)) (fuel:Nat) (last:Z) (dp:Nat),(∀ x ∈ xs,FS d x∧(rec x.1.toNat x.2).2=0)→((xs.map ny).flatten).length≤fuel→(fZ rec false lv fuel (xs.map ny).flatten last dp).2=0
 | [],fuel,last,dp,_,_=>by
  show (fZ rec false lv fuel [] last dp).2=0
  rw [qa]
 | x::xs,fuel,last,dp,hx,hf=>by
  obtain ⟨h1,h2⟩:=hx x Y2
  rw [Zc,Zv] at hf ⊢
  have hp:=vu x
  have hn:=DO h1.known h1.len (xs.map ny).flatten
  rw [YI] at hf
  cases fuel with
  | zero=>omega
  | succ fuel =>
   unfold fZ
   rw [hn]
   dsimp only
   rw [YE (by rw [YI];omega),YE jD,jK,YE (by rw [h2];decide),YE (by simp)]
   exact C5 hlv xs fuel _ _ (fun y hy=>hx y (Y7 _ hy)) O
theorem m9 {d:Nat} {t:Int} {xs:List (Int×Z)} (hd:1≤d) (hm:bQ t=true) (h9:t≠49) (hx:∀ x ∈ xs,FS d x) (hl:((xs.map ny).flatten).length≤65530):FS (d+1) (t,(xs.map ny).flatten):=by
 have hk:=rq hm
 refine ⟨hk,hl,fun lv h=>?_⟩
 obtain ⟨lv,rfl⟩:∃ m,lv=m+1:=⟨lv-1,by omega⟩
 have ht:((t.toNat:Nat):Int)=t:=aHx (sm hk).1
 show (bm (lv+1) t.toNat (xs.map ny).flatten).2=0
 unfold bm
 rw [ht,YE (by rw [hm];decide)]
 have e:decide (t.toNat=49)=false:=by rw [ZT];omega
 rw [e]
 exact C5 (d:=d) O xs _ _ _ (fun x h2=>⟨hx x h2,(hx x h2).wh lv O⟩) (YG _)
theorem zw {d:Nat} {x:Int×Z} (h:FS d x) (hd:d≤16) (hl:(ny x).length≤65536):(aN (ny x)).2=0:=by
 have hn:=DO h.known h.len []
 rw [ZH] at hn
 unfold aN
 rw [hn,jK]
 dsimp only
 rw [YE jD,YE (by simp)]
 exact h.wh 16 hd
theorem iR (ls:YD) (x:Z):aB (ls++[x])=x:=by unfold aB;simp
theorem Cj (ls:YD) (x y:Z):(ls++[x]).set ((ls++[x]).length-1) y=ls++[y]:=by simp
theorem zi (ls:YD) {t:Int} {b:Z} (r:Z) (hk:bI t=true) (hb:b.length≤65530):∃ tg raw,ab t (ls++[bL t b++r]) 0=⟨ls++[r],0,tg,b,raw,true⟩:=by
 have hn:=wN (r:=r) hk hb
 have h0:=(sm hk).1
 unfold ab
 rw [iR,hn,Cj,YE jD,YE (by simp),YE (by dsimp only;rw [aHx h0];simp)]
 exact ⟨_,_,rfl⟩
theorem nQ {ls:YD} {x:Z} {t:Int} {k:Nat} (ht:t≠0) (h:(ab t (ls++[x]) k).k=0):k=0∧bI t=true∧∃ b r tg raw,x=bL t b++r∧b.length≤65530∧ab t (ls++[x]) k=⟨ls++[r],0,tg,b,raw,true⟩:=by
 obtain ⟨h1,h2,h3,h4,h5,h6⟩:=CX ht h
 rw [iR] at h2 h3
 rw [Cj] at h3
 refine ⟨h1,h4,(ab t (ls++[x]) k).body,(af x).rest,(ab t (ls++[x]) k).tag,(ab t (ls++[x]) k).raw,h2,h5,?_⟩
 rw [← h3]
 conv=>rhs;arg 2;rw [← h]
 conv=>rhs;arg 6;rw [← h6]
theorem qp (ls:YD) {t:Int} {b:Z} (r:Z) (hm:bQ t=true) (hb:b.length≤65530):ah t (ls++[bL t b++r]) 0=ls++[r]++[b]∧(ae t (ls++[bL t b++r]) 0).k=0∧(ae t (ls++[bL t b++r]) 0).is=true:=by
 obtain ⟨tg,raw,hN⟩:=zi ls r (rq hm) hb
 have hE:ae t (ls++[bL t b++r]) 0=⟨ls++[r],0,tg,b,raw,true⟩:=by
  unfold ae
  rw [YE (by rintro ⟨_,h⟩;rw [hm] at h;cases h),hN]
 unfold ah
 rw [hE,YF rfl]
 exact ⟨rfl,rfl,rfl⟩
theorem rH {ls:YD} {x:Z} {t:Int} {k:Nat} (ht:t≠0) (h:(ae t (ls++[x]) k).k=0):k=0∧∃ b r,x=bL t b++r∧b.length≤65530∧ah t (ls++[x]) k=ls++[r]++[b]∧(ae t (ls++[x]) k).is=true:=by
 have hc:k=0∧ae t (ls++[x]) k=ab t (ls++[x]) k:=by
  unfold ae at h ⊢
  by_cases hc:bN (ls++[x]) k=true∧bQ t=false
  ·rw [YF hc] at h
   exact absurd (nQ ht h).1 jD
  ·rw [YE hc] at h ⊢
   exact ⟨(nQ ht h).1,rfl⟩
 obtain ⟨hk,hE⟩:=hc
 rw [hE] at h
 obtain ⟨_,_,b,r,tg,raw,h1,h2,h3⟩:=nQ ht h
 refine ⟨hk,b,r,h1,h2,?_,?_⟩
 ·unfold ah
  rw [hE,h3,YF rfl]
 ·rw [hE,h3]
theorem gG (a:AA) (ha:a.kind=1) (l:YD) (k:Nat):(ac a l k).l=ah a.tag l k∧(ac a l k).k=(ae a.tag l k).k:=by unfold ac;rw [YF ha];exact ⟨rfl,rfl⟩
theorem gF (a:AA) (ha:a.kind=2) (l:YD) (k:Nat):(ac a l k).l=bb l k∧(ac a l k).k=aC l k:=by unfold ac;rw [jK,YF ha];exact ⟨rfl,rfl⟩
theorem qf {ls:YD} (h:0<ls.length):bb (ls++[[]]) 0=ls∧aC (ls++[[]]) 0=0:=by
 have hk:aC (ls++[[]]) 0=0:=by
  unfold aC
  rw [YE jD,YE (by rw [YI,ZC];omega),iR,YE jD]
 unfold bb
 rw [hk,YF rfl]
 exact ⟨by simp,rfl⟩
theorem rr {ls:YD} {x:Z} {k:Nat} (h:aC (ls++[x]) k=0):k=0∧x=[]∧0<ls.length∧bb (ls++[x]) k=ls:=by
 have h0:=h
 unfold aC at h
 by_cases h1:k≠0
 ·rw [YF h1] at h;exact absurd h h1
 ·rw [YE h1] at h
  by_cases h2:(ls++[x]).length=1
  ·rw [YF h2] at h;cases h
  ·rw [YE h2,iR] at h
   by_cases h3:0<x.length
   ·rw [YF h3] at h;cases h
   ·refine ⟨by omega,Y1 O,by rw [YI,ZC] at h2;omega,?_⟩
    unfold bb
    rw [h0,YF rfl]
    simp
theorem pf (a:AA) (ls:YD) {b:Z} (r:Z) (ha:3≤a.kind∧a.kind≤10) (hb:b.length≤65530) (h:(saidM a b).2=0):ac a (ls++[bL (bR a) b++r]) 0=⟨ls++[r],0,(saidM a b).1⟩:=by
 have hk:bI (bR a)=true:=by
  unfold bR
  repeat' split
  all_goals decide
 obtain ⟨tg,raw,hN⟩:=zi ls r hk hb
 unfold ac eH eF
 rw [jK,jK,jK,hN]
 dsimp only
 rw [YF rfl,YF ⟨rfl,h⟩,h]
theorem lp {a:AA} {ls:YD} {x:Z} {k:Nat} (ha:3≤a.kind∧a.kind≤10) (h:(ac a (ls++[x]) k).k=0):k=0∧∃ b r,x=bL (bR a) b++r∧b.length≤65530∧(saidM a b).2=0∧ac a (ls++[x]) k=⟨ls++[r],0,(saidM a b).1⟩:=by
 have ht:bR a≠0:=by
  unfold bR
  repeat' split
  all_goals decide
 have e:ac a (ls++[x]) k=eH (bR a) (saidM a) (ls++[x]) k:=by unfold ac;rw [jK,jK,jK]
 have hn:(ab (bR a) (ls++[x]) k).k=0:=by
  rw [e] at h
  unfold eH eF at h
  dsimp only at h
  by_cases hi:(ab (bR a) (ls++[x]) k).is=true
  ·exact (vg (by simp)).2.2.2.2.1.1 hi
  ·rw [YE hi] at h;exact h
 obtain ⟨h1,h2,b,r,tg,raw,h3,h4,h5⟩:=nQ ht hn
 rw [e] at h ⊢
 unfold eH eF at h ⊢
 rw [h5] at h ⊢
 dsimp only at h ⊢
 rw [YF rfl] at h
 exact ⟨h1,b,r,h3,h4,h,by rw [YF rfl,YF ⟨rfl,h⟩,h]⟩
theorem OA {l:YD} {k:Nat} (hl:0<l.length) (h:jk l k=0):k=0∧l=[[]]:=by
 unfold jk at h
 by_cases h1:k≠0
 ·rw [YF h1] at h;exact absurd h h1
 ·rw [YE h1] at h
  by_cases h2:1<l.length
  ·rw [YF h2] at h;cases h
  ·rw [YE h2] at h
   by_cases h3:0<(l.getD 0 []).length
   ·rw [YF h3] at h;cases h
   ·refine ⟨by omega,?_⟩
    obtain ⟨x,rfl⟩:=List.length_eq_one_iff.1 (show l.length=1 by omega)
    have:x=[]:=Y1 (by simpa using h3)
    rw [this]
structure ud {α:Type} (sp:nv α) (enc:α→Z) (good:α→Prop):Prop where
 fwd:∀ (ls:YD) a r,good a→sp (ls++[enc a++r]) 0=((ls++[r],0),a)
 back:∀ (ls:YD) x k,(sp (ls++[x]) k).1.2=0→k=0∧∃ a r,good a∧x=enc a++r∧sp (ls++[x]) k=((ls++[r],0),a)
 pos:∀ a,good a→0<(enc a).length
section
variable {α:Type} {sp:nv α} {enc:α→Z} {good:α→Prop}
theorem K9 (h:ud sp enc good) (ls:YD):∀ (xs:List α) (j:Nat),(∀ a ∈ xs,good a)→j≤xs.length→aD sp (ls++[(xs.map enc).flatten]) 0 j=((ls++[((xs.drop j).map enc).flatten],0),xs.take j)
 | xs,0,_,_=>by simp [aD]
 | xs,j+1,hg,hj=>by
  have ih:=K9 h ls xs j hg O
  have e:((xs.drop j).map enc).flatten=enc xs[j]++((xs.drop (j+1)).map enc).flatten:=by
   rw [Y5 (show j<xs.length by omega),Zc,Zv]
  have h2:=h.fwd ls xs[j] ((xs.drop (j+1)).map enc).flatten (hg _ (ZS _))
  unfold aD
  rw [ih]
  dsimp only
  rw [e,h2]
  dsimp only
  rw [← YO (show j<xs.length by omega)]
theorem Gd (ok:lU sp) (h:ud sp enc good) {tag most:Int} (ls:YD) {xs:List α} (r:Z) (hm:bQ tag=true) (hg:∀ a ∈ xs,good a) (hl:(xs.length:Int)≤most) (hb:((xs.map enc).flatten).length≤65530) :
  co sp (ah tag (ls++[bL tag (xs.map enc).flatten++r]) 0) (ae tag (ls++[bL tag (xs.map enc).flatten++r]) 0).k most=(ls++[r],0) ∧
  (aD sp (ah tag (ls++[bL tag (xs.map enc).flatten++r]) 0) (ae tag (ls++[bL tag (xs.map enc).flatten++r]) 0).k (jG sp (ah tag (ls++[bL tag (xs.map enc).flatten++r]) 0) (ae tag (ls++[bL tag (xs.map enc).flatten++r]) 0).k most)).2=xs:=by
 obtain ⟨e1,e2,e3⟩:=qp ls r hm hb
 rw [e1,e2]
 have hst:=fun j hj=>K9 h (ls++[r]) xs j hg hj
 have hJ:jG sp (ls++[r]++[(xs.map enc).flatten]) 0 most=xs.length:=by
  refine lN ok (by simp) (fun i hi=>?_) ?_
  ·unfold ma
   rw [hst i O]
   dsimp only
   unfold bN
   rw [iR]
   have hd:((xs.drop i).map enc).flatten=enc xs[i]++((xs.drop (i+1)).map enc).flatten:=by
    rw [Y5 (show i<xs.length by omega),Zc,Zv]
   have hp:=h.pos xs[i] (hg _ (ZS _))
   rw [hd]
   simp only [YI,YK,YP]
   refine ⟨⟨trivial,?_⟩,?_⟩
   ·omega
   ·omega
  ·unfold ma
   rw [hst _ (YG _)]
   dsimp only
   unfold bN
   rw [iR,apx]
   simp
 have hs:=hst _ (YG _)
 rw [apx,Za] at hs
 have hs':aD sp (ls++[r]++[(xs.map enc).flatten]) 0 xs.length=((ls++[r]++[[]],0),xs):=hs
 have hlv:=qf (ls:=ls++[r]) (by simp)
 refine ⟨?_,?_⟩
 ·unfold co
  rw [hJ,hs']
  dsimp only
  rw [YE (by unfold bN;rw [iR];simp),hlv.1,hlv.2]
 ·rw [hJ,hs']
theorem F6 (h:ud sp enc good) {most:Int} {k0:Nat} (ls:YD) (x:Z):∀ j,(∀ i,i<j→ma sp (ls++[x]) k0 most i=true)→(aD sp (ls++[x]) k0 j).1.2=0→∃ y,(aD sp (ls++[x]) k0 j).1.1=ls++[y]∧x=((aD sp (ls++[x]) k0 j).2.map enc).flatten++y∧∀ a ∈ (aD sp (ls++[x]) k0 j).2,good a
 | 0,_,hk=>⟨x,rfl,rfl,fun a ha=>by cases ha⟩
 | j+1,hgo,hk=>by
  have hg:=hgo j O
  unfold ma at hg
  rw [YK] at hg
  have hkj:=(gH hg.1).1
  obtain ⟨y,h1,h2,h3⟩:=F6 h (most:=most) ls x j (fun i hi=>hgo i O) hkj
  have hk':(sp (aD sp (ls++[x]) k0 j).1.1 (aD sp (ls++[x]) k0 j).1.2).1.2=0:=hk
  rw [h1] at hk'
  obtain ⟨_,a,r,h4,h5,h6⟩:=h.back ls y _ hk'
  refine ⟨r,?_,?_,?_⟩
  ·show (sp (aD sp (ls++[x]) k0 j).1.1 (aD sp (ls++[x]) k0 j).1.2).1.1=_
   rw [h1,h6]
  ·show x=(((aD sp (ls++[x]) k0 j).2++[(sp (aD sp (ls++[x]) k0 j).1.1 (aD sp (ls++[x]) k0 j).1.2).2]).map enc).flatten++r
   rw [h1,h6,Z3,ZY,Zb]
   rw [h5] at h2
   simpa using h2
  ·intro b hb
   have hb':b ∈ (aD sp (ls++[x]) k0 j).2++[(sp (aD sp (ls++[x]) k0 j).1.1 (aD sp (ls++[x]) k0 j).1.2).2]:=hb
   rw [h1,h6] at hb'
   rcases akx.1 hb' with hb'|hb'
   ·exact h3 b hb'
   ·rw [Zs.1 hb'];exact h4
theorem wi (ok:lU sp) (h:ud sp enc good) {tag most:Int} {k:Nat} (ls:YD) (x:Z) (ht:tag≠0) (he:(co sp (ah tag (ls++[x]) k) (ae tag (ls++[x]) k).k most).2=0) :
  k=0∧∃ xs r,(∀ a ∈ xs,good a)∧(xs=[]∨(xs.length:Int)≤most)∧((xs.map enc).flatten).length≤65530∧x=bL tag (xs.map enc).flatten++r∧co sp (ah tag (ls++[x]) k) (ae tag (ls++[x]) k).k most=(ls++[r],0) ∧
   (aD sp (ah tag (ls++[x]) k) (ae tag (ls++[x]) k).k (jG sp (ah tag (ls++[x]) k) (ae tag (ls++[x]) k).k most)).2=xs:=by
 have hlen:0<(ah tag (ls++[x]) k).length:=by
  obtain ⟨_,_,_,e4,e5,_⟩:=f7 (t:=tag) (l:=ls++[x]) (k:=k) (by simp)
  by_cases h0:(ae tag (ls++[x]) k).k=0
  ·rw [e4 h0];omega
  ·rw [e5 h0];simp
 obtain ⟨hgo,hstop⟩:=nV (k0:=(ae tag (ls++[x]) k).k) (most:=most) ok hlen
 have hbd:=lF (k0:=(ae tag (ls++[x]) k).k) (most:=most) ok hlen
 have hE:co sp (ah tag (ls++[x]) k) (ae tag (ls++[x]) k).k most=(bb (aD sp (ah tag (ls++[x]) k) (ae tag (ls++[x]) k).k (jG sp (ah tag (ls++[x]) k) (ae tag (ls++[x]) k).k most)).1.1 (aD sp (ah tag (ls++[x]) k) (ae tag (ls++[x]) k).k (jG sp (ah tag (ls++[x]) k) (ae tag (ls++[x]) k).k most)).1.2,aC (aD sp (ah tag (ls++[x]) k) (ae tag (ls++[x]) k).k (jG sp (ah tag (ls++[x]) k) (ae tag (ls++[x]) k).k most)).1.1 (aD sp (ah tag (ls++[x]) k) (ae tag (ls++[x]) k).k (jG sp (ah tag (ls++[x]) k) (ae tag (ls++[x]) k).k most)).1.2):=by
  unfold co at he ⊢
  dsimp only at he ⊢
  split at he
  ·exfalso
   dsimp only at he
   unfold aC at he
   rw [YF jD] at he
   cases he
  ·rename_i hm
   rw [YE hm]
 rw [hE] at he
 dsimp only at he
 have hkJ:(aD sp (ah tag (ls++[x]) k) (ae tag (ls++[x]) k).k (jG sp (ah tag (ls++[x]) k) (ae tag (ls++[x]) k).k most)).1.2=0:=by
  refine bbx fun hp=>?_
  have hp':(aD sp (ah tag (ls++[x]) k) (ae tag (ls++[x]) k).k (jG sp (ah tag (ls++[x]) k) (ae tag (ls++[x]) k).k most)).1.2≠0:=by omega
  unfold aC at he
  rw [YF hp'] at he
  exact hp' he
 have hk0:(ae tag (ls++[x]) k).k=0:=by
  rcases arx (jG sp (ah tag (ls++[x]) k) (ae tag (ls++[x]) k).k most) with hz|hz
  ·rw [hz] at hkJ;exact hkJ
  ·have hg:=hgo 0 hz
   unfold ma at hg
   rw [YK] at hg
   exact (gH hg.1).1
 obtain ⟨hk,b,r,h1,h2,h3,h4⟩:=rH ht hk0
 have hJlen:jG sp (ah tag (ls++[x]) k) (ae tag (ls++[x]) k).k most=0∨((jG sp (ah tag (ls++[x]) k) (ae tag (ls++[x]) k).k most:Nat):Int)≤most:=by
  rcases arx (jG sp (ah tag (ls++[x]) k) (ae tag (ls++[x]) k).k most) with hz|hz
  ·exact .inl hz
  ·have hg:=hgo (jG sp (ah tag (ls++[x]) k) (ae tag (ls++[x]) k).k most-1) O
   unfold ma at hg
   rw [YK,YP] at hg
   exact .inr O
 rw [hE]
 rw [hk0,h3] at hgo hkJ he hJlen ⊢
 obtain ⟨y,h5,h6,h7⟩:=F6 h (ls++[r]) b _ hgo hkJ
 have hso:=nD sp (ls++[r]++[b]) 0 (jG sp (ls++[r]++[b]) 0 most)
 generalize jG sp (ls++[r]++[b]) 0 most=J at *
 rw [h5] at he
 obtain ⟨_,h8,_,h9⟩:=rr he
 subst h8
 rw [ZH] at h6
 refine ⟨hk,(aD sp (ls++[r]++[b]) 0 J).2,r,h7,?_,by rw [← h6];exact h2,by rw [← h6];exact h1,?_,rfl⟩
 ·rcases hJlen with h|h
  ·exact .inl (Y1 O)
  ·exact .inr (by rw [hso];exact h)
 ·rw [h5,h9,he]
end
end
section
open Go.RowKit Cal
theorem jh {n p:Int} {c:UInt8} (h:n / p % 10=(c.toNat:Int)-48) (h2:48≤(c.toNat:Int)):Dy n p=c:=by
 unfold Dy
 refine Zq.1 ?_
 have h3:=c.toNat_lt
 rw [YY]
 omega
theorem Ba {b:Z} (h:yf b=0):fJ (Gz (uZ b))=b∧Fl (uZ b):=by
 have hf:xl b:=by
  unfold yf at h
  by_cases hf:xl b
  ·exact hf
  ·rw [YE hf] at h;cases h
 have hr:lV (eJ b):=by
  unfold yf at h
  rw [YF hf] at h
  by_cases hr:lV (eJ b)
  ·exact hr
  ·rw [YE hr] at h;cases h
 have hv:uZ b=AJ (eJ b):=by unfold uZ;rw [YF ⟨hf,hr⟩]
 have hb:=Lv hr
 have ho:Gz (uZ b)=eJ b:=by
  unfold Gz
  rw [hv,YF hb,Uu hr]
 rw [ho,hv]
 refine ⟨?_,hb⟩
 obtain ⟨hl,hz,hd⟩:=hf
 have key:∀ i,i<15→(fJ (eJ b)).getD i 0=b.getD i 0:=by
  have d0:=hd 0 jD;have d1:=hd 1 jD;have d2:=hd 2 jD;have d3:=hd 3 jD;have d4:=hd 4 jD;have d5:=hd 5 jD;have d6:=hd 6 jD
  have d7:=hd 7 jD;have d8:=hd 8 jD;have d9:=hd 9 jD;have d10:=hd 10 jD;have d11:=hd 11 jD;have d12:=hd 12 jD;have d13:=hd 13 jD
  unfold Jt at d0 d1 d2 d3 d4 d5 d6 d7 d8 d9 d10 d11 d12 d13
  have ey:(eJ b).y=1000 * dg b 0+100 * dg b 1+10 * dg b 2+dg b 3:=by show 100 * (10 * dg b 0+dg b 1)+(10 * dg b 2+dg b 3)=_;omega
  have em:(eJ b).m=10 * dg b 4+dg b 5:=rfl
  have ed:(eJ b).d=10 * dg b 6+dg b 7:=rfl
  have eh:(eJ b).h=10 * dg b 8+dg b 9:=rfl
  have ei:(eJ b).mi=10 * dg b 10+dg b 11:=rfl
  have es:(eJ b).s=10 * dg b 12+dg b 13:=rfl
  unfold dg at ey em ed eh ei es
  intro i hi
  rcases i with _|_|_|_|_|_|_|_|_|_|_|_|_|_|_|i
  ·exact jh (n:=(eJ b).y) (p:=1000) (c:=b.getD 0 0) O O
  ·exact jh (n:=(eJ b).y) (p:=100) (c:=b.getD 1 0) O O
  ·exact jh (n:=(eJ b).y) (p:=10) (c:=b.getD 2 0) O O
  ·exact jh (n:=(eJ b).y) (p:=1) (c:=b.getD 3 0) O O
  ·exact jh (n:=(eJ b).m) (p:=10) (c:=b.getD 4 0) O O
  ·exact jh (n:=(eJ b).m) (p:=1) (c:=b.getD 5 0) O O
  ·exact jh (n:=(eJ b).d) (p:=10) (c:=b.getD 6 0) O O
  ·exact jh (n:=(eJ b).d) (p:=1) (c:=b.getD 7 0) O O
  ·exact jh (n:=(eJ b).h) (p:=10) (c:=b.getD 8 0) O O
  ·exact jh (n:=(eJ b).h) (p:=1) (c:=b.getD 9 0) O O
  ·exact jh (n:=(eJ b).mi) (p:=10) (c:=b.getD 10 0) O O
  ·exact jh (n:=(eJ b).mi) (p:=1) (c:=b.getD 11 0) O O
  ·exact jh (n:=(eJ b).s) (p:=10) (c:=b.getD 12 0) O O
  ·exact jh (n:=(eJ b).s) (p:=1) (c:=b.getD 13 0) O O
  ·exact (Zq.1 (show (90:UInt8).toNat=(b.getD 14 0).toNat by have e:(90:UInt8).toNat=90:=rfl;omega))
  ·omega
 refine agx (by rw [hl];rfl) fun i h1 h2=>?_
 have:=key i O
 rw [YH,YH,YR h1,YR h2] at this
 exact this
theorem O1 {v:VV} (hn:-9223372036854775808≤v.n∧v.n≤9223372036854775807) (ht:v.t.length≤300):(bp v).2.1.length≤max 300 v.b.length:=by
 by_cases h6:v.kind=6
 ·have e:bp v=(4,v.b,0):=by unfold bp;rw [jK,jK,jK,YF h6]
  rw [e]
  show v.b.length≤_
  omega
 ·have hs:jY ⟨v.kind,v.n,v.is,[],v.t⟩:=⟨hn,by simp,ht⟩
  have:=uL hs
  have e:bp ⟨v.kind,v.n,v.is,[],v.t⟩=bp v:=by
   unfold bp
   dsimp only
   rw [YE h6,YE h6]
  rw [e] at this
  omega
theorem RG {i:Nat} {r:R8} {s:W8} (h:gP i r s) {v:VV} {u:Nat} (hn:-9223372036854775808≤v.n∧v.n≤9223372036854775807) (ht:v.t.length≤300) (hk:3≤v.kind∧v.kind≤10) (hu:1≤u) (hb:v.b.length+10≤400 * u):gP (i+u) (oI v r) (mr v s):=by
 have hs:=Ga h.same v
 have hw:xQ (mr v s)≤xQ s+400 * u:=by
  have e:mr v s=fD (bp v).1 (bp v).2.1 (bp v).2.2 s:=by
   unfold mr
   rw [jK,jK,jK]
  have h1:=Em (bp v).1 (bp v).2.1 (bp v).2.2 s
  have h2:=O1 hn ht
  rw [e]
  omega
 have hg:=Do v r
 have h0:=h.w
 have hl:(oI v r).tags.length≤16:=by rw [hs.tags];simpa using hs.lim
 refine ⟨hs,by omega,fun x hx=>?_,?_⟩
 ·rcases hg.2 x hx with h1|h1|⟨y,b,h1,h2,h3⟩
  ·have:=h.rows x h1;omega
  ·subst h1;simp [cp]
  ·have ha:=xL hs
   rw [← h3] at ha
   refine ⟨?_,by omega⟩
   rw [h2,YI,ZC]
   rcases h1 with h1|h1
   ·have:=h.rows y h1;omega
   ·subst h1;simp;omega
 ·have:=hg.1
  have:=h.n
  omega
theorem FI {v:VV} (h:3≤v.kind∧v.kind≤10):(v.kind=3∧bp v=(2,kz v.n,0))∨(v.kind=4∧bp v=(10,kz v.n,0))∨(v.kind=5∧bp v=(1,[if v.is then 255 else 0],0))∨(v.kind=6∧bp v=(4,v.b,0)) ∨
  (v.kind=7∧bp v=(12,if ay v.t v.n=0 then v.t else [],ay v.t v.n))∨(v.kind=8∧bp v=(6,ja v.t,(bH v.t).2))∨(v.kind=9∧bp v=(24,if Fl v.n then fJ (Gz v.n) else [],Xa v.n))∨(v.kind=10∧bp v=(3,nt v.n,sS v.n)):=by
 obtain h|h|h|h|h|h|h|h:v.kind=3∨v.kind=4∨v.kind=5∨v.kind=6∨v.kind=7∨v.kind=8∨v.kind=9∨v.kind=10:=by omega
 ·exact .inl ⟨h,by unfold bp;rw [YF h]⟩
 ·exact .inr (.inl ⟨h,by unfold bp;rw [jK,YF h]⟩)
 ·exact .inr (.inr (.inl ⟨h,by unfold bp;rw [jK,jK,YF h]⟩))
 ·exact .inr (.inr (.inr (.inl ⟨h,by unfold bp;rw [jK,jK,jK,YF h]⟩)))
 ·exact .inr (.inr (.inr (.inr (.inl ⟨h,by unfold bp;rw [jK,jK,jK,jK,YF h]⟩))))
 ·exact .inr (.inr (.inr (.inr (.inr (.inl ⟨h,by unfold bp;rw [jK,jK,jK,jK,jK,YF h]⟩)))))
 ·exact .inr (.inr (.inr (.inr (.inr (.inr (.inl ⟨h,by unfold bp;rw [jK,jK,jK,jK,jK,jK,YF h]⟩))))))
 ·exact .inr (.inr (.inr (.inr (.inr (.inr (.inr ⟨h,by unfold bp;rw [jK,jK,jK,jK,jK,jK,jK]⟩))))))
theorem V0 {v:VV} (h:3≤v.kind∧v.kind≤10):bI (bp v).1=true∧bQ (bp v).1=false∧(bp v).1≠0:=by
 obtain ⟨_,e⟩|⟨_,e⟩|⟨_,e⟩|⟨_,e⟩|⟨_,e⟩|⟨_,e⟩|⟨_,e⟩|⟨_,e⟩:=FI h <;> (rw [e];dsimp only;decide)
theorem BC {v:VV} (h:3≤v.kind∧v.kind≤10) (s:W8):mr v s=fD (bp v).1 (bp v).2.1 (bp v).2.2 s:=by
 unfold mr
 rw [jK,jK,jK]
end
end Am
end Go.Proofs.YtghminnpfnkbjaaGreatDoor
