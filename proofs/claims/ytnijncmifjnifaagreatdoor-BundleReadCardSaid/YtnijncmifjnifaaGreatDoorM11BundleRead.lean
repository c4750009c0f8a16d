/- What the law leans on, part 11: W08s9, W11v, W13n, W13f, W13g, W12i, P13r, W13h, L13s, W13o, W13k, SlE, W13l, W13p, P13k, L13r -/
import Derived.Test.YtnijncmifjnifaaGreatDoorM10BundleRead

set_option maxRecDepth 100000
namespace Go.Proofs.YtnijncmifjnifaaGreatDoor
set_option linter.unusedVariables false
namespace Am
open Go.RowKit
section
open Go.RowKit Cal
set_option maxHeartbeats 1000000 in
theorem rsaidF_ac {gs:List Nat} (a:AA) (b:List UInt8) (hF:a.kind=3∨a.kind=4∨a.kind=6∨a.kind=7∨a.kind=9) (hb:b.length≤1000000):AC gs Tryz.prog 95 [] [askC a,bsC b] (SaidQ a b):=by
 refine ac_oF 126 Tryz.func95 fun al w0 F0 St0=>?_;refine jcr ?_
 refine jqe (jebx 4 fun p1=>?_)
 refine jqe (jeal (n:=5) zr92 rfl fun p2=>?_)
 refine jU 5126720550906751 ?_;refine jF3 169000810 8512200 (fun h246=>?_) fun h246=>?_
 ·refine jF1 121675119009001 (rget04_ac b) ?_;refine jF4 125010001 1681030055004444444444 26 (fun g248=>?_) fun g248=>?_
  rotate_left
  ·refine jq (rd_build (n:=5) rfl zr92 pl92 rfl rfl) ?_;refine jU 1 ?_;refine jF7 30005000700051 5 ?_
   have hs:=said_34 (a:=a) (by omega) b
   have hq:SaidQ a b (.tup 2 (fl [valC (vN (getM b).1),.c (.int .i64 ((rangeM b a.least a.most).2:Nat))])) []:=⟨⟨_,by rw [hs],fun h0=>by rw [hs] at h0 ⊢;simp only;rw [range_ok h0]⟩,rfl⟩
   exact end_ownV (.inl rfl) [] (by decide) rfl (res_2 rfl (javA 5) javt) (cT jag (cI (by unfold rangeM;(rw [if_pos (by omega)];done)))) hq
  refine jF4 16851200900051000000001000000004444 510000000050025050000001 31 (fun g248_2=>?_) fun g248_2=>?_
  ·refine jq (rd_build (n:=5) rfl zr92 pl92 rfl rfl) ?_;refine jU 1 ?_;refine jF7 30005000700051 5 ?_
   have hs:=said_34 (a:=a) (by omega) b
   have hq:SaidQ a b (.tup 2 (fl [valC (vN (getM b).1),.c (.int .i64 ((rangeM b a.least a.most).2:Nat))])) []:=⟨⟨_,by rw [hs],fun h0=>by rw [hs] at h0 ⊢;simp only;rw [range_ok h0]⟩,rfl⟩
   exact end_ownV (.inl rfl) [] (by decide) rfl (res_2 rfl (javA 5) javt) (cT jag (cI (by unfold rangeM;(rw [if_neg (by omega),if_pos (by omega)];rfl)))) hq
  refine jF3 16851200 16810 (fun h248=>?_) fun h248=>?_
  rotate_left
  ·refine jq (rd_build (n:=5) rfl zr92 pl92 rfl rfl) ?_;refine jU 1 ?_;refine jF7 30005000700051 5 ?_
   have hs:=said_34 (a:=a) (by omega) b
   have hq:SaidQ a b (.tup 2 (fl [valC (vN (getM b).1),.c (.int .i64 ((rangeM b a.least a.most).2:Nat))])) []:=⟨⟨_,by rw [hs],fun h0=>by rw [hs] at h0 ⊢;simp only;rw [range_ok h0]⟩,rfl⟩
   exact end_ownV (.inl rfl) [] (by decide) rfl (res_2 rfl (javA 5) javt) (cT jag (cI (by unfold rangeM;(rw [if_neg (by omega),if_neg (by omega)];simp only;omega)))) hq
  refine jq (rd_build (n:=5) rfl zr92 pl92 rfl rfl) ?_;refine jU 1 ?_;refine jF7 30005000700051 5 ?_
  have hs:=said_34 (a:=a) (by omega) b
  have hq:SaidQ a b (.tup 2 (fl [valC (vN (getM b).1),.c (.int .i64 ((rangeM b a.least a.most).2:Nat))])) []:=⟨⟨_,by rw [hs],fun h0=>by rw [hs] at h0 ⊢;simp only;rw [range_ok h0]⟩,rfl⟩
  exact end_ownV (.inl rfl) [] (by decide) rfl (res_2 rfl (javA 5) javt) (cT jag (cI (by unfold rangeM;(rw [if_neg (by omega),if_pos (by omega)];rfl)))) hq
 refine jF3 16 5126 (fun h246_2=>?_) fun h246_2=>?_
 ·refine jF1 121675119009001 (rget04_ac b) ?_;refine jF4 125010001 1681030055004444444444 26 (fun g248=>?_) fun g248=>?_
  rotate_left
  ·refine jq (rd_build (n:=5) rfl zr92 pl92 rfl rfl) ?_;refine jU 1 ?_;refine jF7 30005000700051 5 ?_
   have hs:=said_34 (a:=a) (by omega) b
   have hq:SaidQ a b (.tup 2 (fl [valC (vN (getM b).1),.c (.int .i64 ((rangeM b a.least a.most).2:Nat))])) []:=⟨⟨_,by rw [hs],fun h0=>by rw [hs] at h0 ⊢;simp only;rw [range_ok h0]⟩,rfl⟩
   exact end_ownV (.inl rfl) [] (by decide) rfl (res_2 rfl (javA 5) javt) (cT jag (cI (by unfold rangeM;(rw [if_pos (by omega)];done)))) hq
  refine jF4 16851200900051000000001000000004444 510000000050025050000001 31 (fun g248_2=>?_) fun g248_2=>?_
  ·refine jq (rd_build (n:=5) rfl zr92 pl92 rfl rfl) ?_;refine jU 1 ?_;refine jF7 30005000700051 5 ?_
   have hs:=said_34 (a:=a) (by omega) b
   have hq:SaidQ a b (.tup 2 (fl [valC (vN (getM b).1),.c (.int .i64 ((rangeM b a.least a.most).2:Nat))])) []:=⟨⟨_,by rw [hs],fun h0=>by rw [hs] at h0 ⊢;simp only;rw [range_ok h0]⟩,rfl⟩
   exact end_ownV (.inl rfl) [] (by decide) rfl (res_2 rfl (javA 5) javt) (cT jag (cI (by unfold rangeM;(rw [if_neg (by omega),if_pos (by omega)];rfl)))) hq
  refine jF3 16851200 16810 (fun h248=>?_) fun h248=>?_
  rotate_left
  ·refine jq (rd_build (n:=5) rfl zr92 pl92 rfl rfl) ?_;refine jU 1 ?_;refine jF7 30005000700051 5 ?_
   have hs:=said_34 (a:=a) (by omega) b
   have hq:SaidQ a b (.tup 2 (fl [valC (vN (getM b).1),.c (.int .i64 ((rangeM b a.least a.most).2:Nat))])) []:=⟨⟨_,by rw [hs],fun h0=>by rw [hs] at h0 ⊢;simp only;rw [range_ok h0]⟩,rfl⟩
   exact end_ownV (.inl rfl) [] (by decide) rfl (res_2 rfl (javA 5) javt) (cT jag (cI (by unfold rangeM;(rw [if_neg (by omega),if_neg (by omega)];simp only;omega)))) hq
  refine jq (rd_build (n:=5) rfl zr92 pl92 rfl rfl) ?_;refine jU 1 ?_;refine jF7 30005000700051 5 ?_
  have hs:=said_34 (a:=a) (by omega) b
  have hq:SaidQ a b (.tup 2 (fl [valC (vN (getM b).1),.c (.int .i64 ((rangeM b a.least a.most).2:Nat))])) []:=⟨⟨_,by rw [hs],fun h0=>by rw [hs] at h0 ⊢;simp only;rw [range_ok h0]⟩,rfl⟩
  exact end_ownV (.inl rfl) [] (by decide) rfl (res_2 rfl (javA 5) javt) (cT jag (cI (by unfold rangeM;(rw [if_neg (by omega),if_pos (by omega)];rfl)))) hq
 refine jF3 0 5126 (fun h252=>?_) fun h252=>?_
 ·exfalso;omega
 refine jF3 525010003167 5126 (fun h260=>?_) fun h260=>?_
 ·refine jF3 0 525050000003167810 (fun h261=>?_) fun h261=>?_
  ·refine jcr ?_;refine jq (rd_build (n:=5) rfl zr92 pl92 rfl rfl) ?_;refine jF7 300050003000700051 5 ?_
   have hs:saidM a b=(vB [],2):=by unfold saidM;rw [if_neg (by omega),if_neg (by omega),if_neg (by omega),if_pos (by omega)];unfold octM;rw [if_pos (by omega)]
   have hq:SaidQ a b (.tup 2 (fl [valC (VV.none),.c (.int .i64 ((2:Nat):Int))])) []:=⟨⟨_,by rw [hs],fun h0=>by (rw [hs] at h0;exact absurd h0 (by decide))⟩,rfl⟩
   exact end_ownV (.inl rfl) [] (by decide) rfl (res_2 rfl (javA 5) javt) (cT jag (by exact cZ)) hq
  refine jF3 0 16810 (fun h264=>?_) fun h264=>?_
  ·refine jcr ?_;refine jq (rd_build (n:=5) rfl zr92 pl92 rfl rfl) ?_;refine jF7 300050003000700051 5 ?_
   have hs:saidM a b=(vB [],3):=by unfold saidM;rw [if_neg (by omega),if_neg (by omega),if_neg (by omega),if_pos (by omega)];unfold octM;rw [if_neg (by omega),if_pos (by omega)]
   have hq:SaidQ a b (.tup 2 (fl [valC (VV.none),.c (.int .i64 ((3:Nat):Int))])) []:=⟨⟨_,by rw [hs],fun h0=>by (rw [hs] at h0;exact absurd h0 (by decide))⟩,rfl⟩
   exact end_ownV (.inl rfl) [] (by decide) rfl (res_2 rfl (javA 5) javt) (cT jag (by exact cZ)) hq
  refine jq (rd_build (n:=5) rfl zr92 pl92 rfl rfl) ?_;refine jF7 30005000700051 5 ?_
  have hs:saidM a b=(vB b,0):=by unfold saidM;rw [if_neg (by omega),if_neg (by omega),if_neg (by omega),if_pos (by omega)];unfold octM;rw [if_neg (by omega),if_neg (by omega)]
  have hq:SaidQ a b (.tup 2 (fl [valC (vB b),.c (.int .i64 ((0:Nat):Int))])) []:=⟨⟨_,by rw [hs],fun h0=>by (rw [hs])⟩,rfl⟩
  exact end_ownV (.inl rfl) [] (by decide) rfl (res_2 rfl (javA 5) javt) (cT jag (by exact cZ)) hq
 refine jF3 0 5126 (fun h268=>?_) fun h268=>?_
 ·refine jcs ?_;refine jcdB 8 (oT [0,2,4,6,8,10,12,15] .done) ?_;refine jU 3000000070 ?_;refine jyq (rd_build (n:=5) rfl zr92 pl92 rfl rfl) ?_;refine jU 3000000070 ?_;refine jyq (jrfa 3 1 false) ?_;refine jyo jrdo ?_
  refine jye (jecP (rasked_ac b a.most (by omega)) ?_)
  refine jyd ?_
  show ASeq _ _ _ _ _ _
  refine jF7 300050007000851 5 ?_
  have hs:saidM a b=(vT (if askedM b a.most=0 then b else []),askedM b a.most):=by unfold saidM;rw [if_neg (by omega),if_neg (by omega),if_neg (by omega),if_neg (by omega),if_pos (by omega)]
  have hq:SaidQ a b (.tup 2 (fl [valC (vT b),.c (.int .i64 ((askedM b a.most:Nat):Int))])) []:=⟨⟨_,by rw [hs],fun h0=>by rw [hs] at h0 ⊢;rw [if_pos h0]⟩,rfl⟩
  exact end_ownV (.inl rfl) [] (by decide) rfl (res_2 rfl (javA 5) javt) (cT jag cZ) hq
 refine jF3 0 5126 (fun h270=>?_) fun h270=>?_
 ·exfalso;omega
 refine jF3 16 0 (fun h276=>?_) fun h276=>?_
 rotate_left
 ·exfalso;omega
 refine jF1 165119009001 (rget_ac b) ?_;refine jq (rd_build (n:=5) rfl zr92 pl92 rfl rfl) ?_;refine jU 1 ?_;refine jF7 30005000700051 5 ?_
 have hs:saidM a b=(vN (getV b),getE b):=by unfold saidM;rw [if_neg (by omega),if_neg (by omega),if_neg (by omega),if_neg (by omega),if_neg (by omega),if_neg (by omega),if_pos (by omega)]
 have hq:SaidQ a b (.tup 2 (fl [valC (vN (getV b)),.c (.int .i64 ((getE b:Nat):Int))])) []:=⟨⟨_,by rw [hs],fun h0=>by rw [hs]⟩,rfl⟩
 exact end_ownV (.inl rfl) [] (by decide) rfl (res_2 rfl (javA 5) javt) (cT jag cZ) hq
end
section
open Go.RowKit Cal
set_option maxHeartbeats 1000000 in
theorem rbodyC_ac {gs:List Nat} (v:VV) (hv:OkV v) (hF:v.kind=3∨v.kind=6∨v.kind=7∨v.kind=9∨v.kind=10):AC gs Tryz.prog 111 [] [valC v] (BodyQ v):=by
 have hvt:=hv.t
 have hvn:=hv.n
 refine ac_oF 77 Tryz.func111 fun al w0 F0 St0=>?_;refine jcr ?_
 refine jqe (jebx 5 fun p1=>?_)
 refine jU 51262055090675111 ?_;refine jF3 501006 5126 (fun h31=>?_) fun h31=>?_
 ·refine jF1 3000500070005111 (rput04_ac v.n hv.n.1 hv.n.2) ?_
  exact end_ownV (.inl rfl) [] (by decide) rfl (res_3 rfl javt javt javt) cZ (bodyQ (by unfold bodyV;rw [if_pos (by omega)]) (fun _=>rfl))
 refine jF3 0 5126 (fun h33=>?_) fun h33=>?_
 ·exfalso;omega
 refine jF3 0 5126 (fun h35=>?_) fun h35=>?_
 ·exfalso;omega
 refine jF3 0 5126 (fun h40=>?_) fun h40=>?_
 ·refine jcs ?_;refine jcd (oN 0 5) ?_;refine jyq (jrfa 3 1 false) ?_;refine jU 30005000700088070707010000 ?_
  exact end_ownV (.inl rfl) [] (by decide) rfl (res_3 rfl javt javt javt) cZ (bodyQ (by unfold bodyV;rw [if_neg (by omega),if_neg (by omega),if_neg (by omega),if_pos (by omega)]) (fun _=>rfl))
 refine jF3 0 5126 (fun h42=>?_) fun h42=>?_
 ·refine jcs ?_;refine jcd (oT [0,2,6,8,10,12] (.two 2 (oT [15,16,18,20] .done) 7 (oT [16,5,18,20] .done))) ?_;refine jyq (jrfa 4 1 false) ?_;refine jyo jrdo ?_;refine jyq (jrfa 4 1 false) ?_;refine jU 10000800000010000 ?_;refine jytwo ?_ ?_
  ·refine jye (jecv ?_)
   refine jye (jecP (rasked_ac v.t v.n (by omega)) ?_)
   refine jU 300050007000880707070 ?_
   exact end_ownV (.inl rfl) [] (by decide) rfl (res_3 rfl javt javt javt) cZ (bodyQ (b':=v.t) (by unfold bodyV;rw [if_neg (by omega),if_neg (by omega),if_neg (by omega),if_neg (by omega),if_pos (by omega)]) (fun h=>by rw [if_pos h]))
  ·refine jye (jecP (rasked_ac v.t v.n (by omega)) ?_)
   refine jU 70 ?_
   refine jye (jecv ?_)
   refine jU 3000500070008807070 ?_
   exact end_ownV (.inl rfl) [] (by decide) rfl (res_3 rfl javt javt javt) cZ (bodyQ (b':=v.t) (by unfold bodyV;rw [if_neg (by omega),if_neg (by omega),if_neg (by omega),if_neg (by omega),if_pos (by omega)]) (fun h=>by rw [if_pos h]))
 refine jF3 0 5126 (fun h44=>?_) fun h44=>?_
 ·exfalso;omega
 refine jF3 125010067 125010067840010 (fun h50=>?_) fun h50=>?_
 rotate_left
 ·refine jF4 300070005111690005100000000444 5500250100 69 (fun g56=>?_) fun g56=>?_
  ·exact end_ownV (.inl rfl) [] (by decide) rfl (res_3 rfl javt javt javt) (CEnt.tup3 cZ cN cZ) (bodyQ (e:=1) (by unfold bodyV;rw [if_neg (by omega),if_neg (by omega),if_neg (by omega),if_neg (by omega),if_neg (by omega),if_neg (by omega),if_neg (by omega)];unfold bitsE;rw [if_pos (by omega)]) (fun h=>by cases h))
  refine jF3 3000700051116 501006810 (fun h56=>?_) fun h56=>?_
  ·exact end_ownV (.inl rfl) [] (by decide) rfl (res_3 rfl javt javt javt) (CEnt.tup3 cZ cN cZ) (bodyQ (e:=1) (by unfold bodyV;rw [if_neg (by omega),if_neg (by omega),if_neg (by omega),if_neg (by omega),if_neg (by omega),if_neg (by omega),if_neg (by omega)];unfold bitsE;rw [if_pos (by omega)]) (fun h=>by cases h))
  refine jqe (jecP (rflags_ac v.n.toNat (by omega)) ?_ (ho:=rfl) (he:=(.cons (se rfl (cI (by omega))) .nil)))
  refine jU 70005111 ?_
  exact end_ownV (.inl rfl) [] (by decide) rfl (res_3 rfl javt javt javt) cZ (bodyQ (e:=0) (by unfold bodyV;rw [if_neg (by omega),if_neg (by omega),if_neg (by omega),if_neg (by omega),if_neg (by omega),if_neg (by omega),if_neg (by omega)];unfold bitsE;rw [if_neg (by omega)]) (fun h=>by unfold bitsL;rw [if_neg (by omega)]))
 refine jF4 30005000300070005111690005100000000444 5500250100 57 (fun g51=>?_) fun g51=>?_
 ·exact end_ownV (.inl rfl) [] (by decide) rfl (res_3 rfl javt javt javt) (CEnt.tup3 cZ cN cZ) (bodyQ (e:=1) (by unfold bodyV;rw [if_neg (by omega),if_neg (by omega),if_neg (by omega),if_neg (by omega),if_neg (by omega),if_neg (by omega),if_pos (by omega)];unfold ofE;rw [if_neg (by unfold inT;omega),if_neg (by unfold inT;omega)]) (fun h=>by cases h))
 refine jF3 300050003000700051116 810 (fun h51=>?_) fun h51=>?_
 ·exact end_ownV (.inl rfl) [] (by decide) rfl (res_3 rfl javt javt javt) (CEnt.tup3 cZ cN cZ) (bodyQ (e:=1) (by unfold bodyV;rw [if_neg (by omega),if_neg (by omega),if_neg (by omega),if_neg (by omega),if_neg (by omega),if_neg (by omega),if_pos (by omega)];unfold ofE;rw [if_neg (by unfold inT;omega),if_neg (by unfold inT;omega)]) (fun h=>by cases h))
 have hin:inT v.n:=⟨by omega,by omega⟩
 refine jU 501006 ?_
 refine jqe (jecP (rof6_ac v.n hin) ?_)
 refine jF1 3000500070005111 (rtext6_ac (ofR6 v.n) (ofR_right hin).1) ?_
 exact end_ownV (.inl rfl) [] (by decide) rfl (res_3 rfl javt javt javt) cZ (bodyQ (e:=0) (by unfold bodyV;rw [if_neg (by omega),if_neg (by omega),if_neg (by omega),if_neg (by omega),if_neg (by omega),if_neg (by omega),if_pos (by omega)];unfold ofE;rw [if_pos hin,if_pos hin]) (fun h=>by unfold ofM;rw [if_pos hin]))

def RW (gs:List Nat) (f:FuncId) (r:R8) (args:List CV) (r':R8):Prop:=∀ n,AC gs Tryz.prog f [rwO n r] (.op 0 (some n) 0::args) (fun x H'=>x=.c (.tuple #[])∧H'=[rwO n r'])
theorem rdoC_ac {gs:List Nat} (r:R8) (v:VV) (hs:OkRD r) (hv:OkV v) (hF:v.kind=1∨v.kind=2∨v.kind=3∨v.kind=6∨v.kind=7∨v.kind=9∨v.kind=10):RW gs 68 r [valC v] (rdoS v r):=fun n=>rdoWB_ac n r v hs hv fun _ _ _=>rbodyC_ac v hv (by omega)
theorem rpid_ac {gs:List Nat} (n:Nat) (r:R8) (s:List UInt8) (hs:OkRD r) (h:hexOk s=true):AC gs Tryz.prog 69 [rwO n r] [.op 0 (some n) 0,strC s] (fun x H'=>x=.c (.tuple #[])∧H'=[rwO n (rputFd fId (vB4 (hexB s)) r)]):=by
 have hl:=(hexOk_two h).1
 have hx:=hexB_len s
 have hb:=rnum_ac (gs:=gs) s (by omega)
 rw [if_pos h] at hb
 have hd:=rdoC_ac (gs:=gs) r ⟨6,0,false,hexB s,[]⟩ hs ⟨by show (-9223372036854775808:Int)≤0∧(0:Int)≤9223372036854775807;decide,by show (hexB s).length≤_;omega,by simp⟩ (by simp) n
 have e:rputFd fId (vB4 (hexB s)) r=rdoS ⟨6,0,false,hexB s,[]⟩ r:=rfl
 rw [e]
 refine jF5 16 15 Tryz.func69 fun al w0 F0 St0=>?_;refine jF1 112005119009001 hb ?_;refine jq (rd_build (n:=5) rfl zr92 pl92 rfl rfl) ?_;refine jF2 5 0 hd ?_
 exact jnh
section
variable {gs:List Nat} {c:C11}
theorem ok_n {kd n:Int} (h:-9223372036854775808≤n∧n≤9223372036854775807):OkV ⟨kd,n,false,[],[]⟩:=⟨h,by simp,by simp⟩
theorem rb_0:RW gs 68 r00 [valC (w1 48)] rW0:=rdoC_ac r00 (w1 48) (inv_okR inv_00 (by decide)) (small_w1 (t:=48) (by decide)).ok (by simp [w1])
end
end
section
open Go.RowKit Cal
theorem anc_calls {gs:List Nat} {a:N4} (h:GoodA a) (hr:rightN a=true) {r:R8} {w:W8} {i:Nat} (hI:Inv8 i r w) (hi:i≤600):∃ R1 R2 R3 R4 R5,RW gs 68 r [valC (w1 48)] R1∧RW gs 68 R1 [valC ⟨3,a.1,false,[],[]⟩] R2∧RW gs 69 R2 [strC a.2.1] R3∧RW gs 68 R3 [valC ⟨9,a.2.2.1,false,[],[]⟩] R4∧RW gs 68 R4 [valC ⟨9,a.2.2.2,false,[],[]⟩] R5∧RW gs 68 R5 [valC w2] (ancR a r):=by
 have hho:hexOk a.2.1=true:=by unfold rightN at hr;simp only [Bool.and_eq_true] at hr;exact hr.1.1
 have I1:Inv8 (i+1) (rdoS (w1 48) r) (openW 48 w):=by
  have:=inv_do hI (small_w1 (t:=48) (by decide))
  rwa [do_w1] at this
 have I2:=inv_putFd ok_Ge h.ge I1
 have I3:=inv_putFd ok_Id h.ky I2
 have I4:=inv_putFd ok_Mo h.fr I3
 have I5:=inv_putFd ok_Mo h.til I4
 refine ⟨rdoS (w1 48) r,rputFd fGe (vN4 a.1) (rdoS (w1 48) r),rputFd fId (vB4 (hexB a.2.1)) (rputFd fGe (vN4 a.1) (rdoS (w1 48) r)),rputFd fMo (vN4 a.2.2.1) (rputFd fId (vB4 (hexB a.2.1)) (rputFd fGe (vN4 a.1) (rdoS (w1 48) r))),rputFd fMo (vN4 a.2.2.2) (rputFd fMo (vN4 a.2.2.1) (rputFd fId (vB4 (hexB a.2.1)) (rputFd fGe (vN4 a.1) (rdoS (w1 48) r)))),?_,?_,?_,?_,?_,?_⟩
 ·exact rdoC_ac r (w1 48) (inv_okR hI (by omega)) (small_w1 (t:=48) (by decide)).ok (by simp [w1])
 ·exact rdoC_ac _ ⟨3,a.1,false,[],[]⟩ (inv_okR I1 (by omega)) (ok_n (fd_body ok_Ge h.ge (by decide)).2.2.2.2.2.2.1) (by simp)
 ·exact fun n=>rpid_ac n _ a.2.1 (inv_okR I2 (by omega)) hho
 ·exact rdoC_ac _ ⟨9,a.2.2.1,false,[],[]⟩ (inv_okR I3 (by omega)) (ok_n (fd_body ok_Mo h.fr (by decide)).2.2.2.2.2.2.1) (by simp)
 ·exact rdoC_ac _ ⟨9,a.2.2.2,false,[],[]⟩ (inv_okR I4 (by omega)) (ok_n (fd_body ok_Mo h.til (by decide)).2.2.2.2.2.2.1) (by simp)
 ·exact rdoC_ac _ w2 (inv_okR I5 (by omega)) small_w2.ok (by simp [w2])
section
variable {gs:List Nat} {b:B3}
theorem r13_1 (h:GoodB3 b):RW gs 68 rW0 [valC ⟨3,b.1,false,[],[]⟩] (bR1 b):=rdoC_ac rW0 ⟨3,b.1,false,[],[]⟩ (inv_okR inv_0 (by decide)) (ok_n (fd_body ok_Se h.ve (by decide)).2.2.2.2.2.2.1) (by simp)
theorem r13_2 (h:GoodB3 b):RW gs 68 (bR1 b) [valC (vTx b.2.1)] (bR2 b):=rdoC_ac (bR1 b) (vTx b.2.1) (inv_okR (inv_b1 h) (by decide)) (small_tx h.sp).ok (by simp [vTx])
theorem r13_3 (h:GoodB3 b):RW gs 68 (bR2 b) [valC (w1 49)] (aR (bR2 b) b.2.2 0):=rdoC_ac (bR2 b) (w1 49) (inv_okR (inv_b2 h) (by decide)) (small_w1 (t:=49) (by decide)).ok (by simp [w1])
theorem r13_4 (h:GoodB3 b):RW gs 68 (aR (bR2 b) b.2.2 b.2.2.length) [valC w2] (bR3 b):=rdoC_ac _ w2 (inv_okR (inv_a h _ (Nat.le_refl _)) (by have:=h.n8;omega)) small_w2.ok (by simp [w2])
theorem r13_5 (h:GoodB3 b):RW gs 68 (bR3 b) [valC w2] (bR4 b):=rdoC_ac _ w2 (inv_okR (inv_b3 h) (by decide)) small_w2.ok (by simp [w2])
set_option maxHeartbeats 4000000 in
theorem rbytes13_ac (hr:rightB b=true):ACp gs Tryz.prog 28 [bnC b] (bsC (bunB b)):=by
 have hg:=good_B3 hr
 have h8:=hg.n8
 refine ac_oF 71 Tryz.func28 fun al w0 F0 St0=>?_;refine jcr ?_
 refine jqe (jebx 3 fun p1=>?_)
 refine jU 51 ?_;refine jE (blk_ent 0 (m:=3) (F:=bnF b) rfl (by decide) (fun _=>rfl) (fun j hj=>CEnt.of_eq (fl_map _ hj))) ?_;refine jcr ?_;refine jq (rd_build (n:=3) rfl zr115 pl115 rfl rfl) ?_
 refine jqe (jebx 3 fun p2=>?_)
 refine jU 51 ?_;refine code_knowG (know_op 3 rfl) fun hn=>?_
 obtain ⟨n,rfl⟩:=hn
 refine jE (newRW n 1 rfl cZ cZ cZ) ?_;refine jnm ?_;refine jU 16 ?_;refine jq (rd_build (n:=5) rfl zr92 pl92 rfl rfl) ?_;refine jF2 5 1 (rb_0 n) ?_;refine jnm ?_;refine jU 509016 ?_;refine jq (rd_build (n:=5) rfl zr92 pl92 rfl rfl) ?_;refine jF2 5 1 (r13_1 hg n) ?_;refine jnm ?_;refine jU 5010016 ?_;refine jq (rd_build (n:=5) rfl zr92 pl92 rfl rfl) ?_;refine jF2 5 1 (r13_2 hg n) ?_;refine jnm ?_;refine jU 16 ?_;refine jq (rd_build (n:=5) rfl zr92 pl92 rfl rfl) ?_;refine jF2 20513501000675 1 (r13_3 hg n) ?_
 refine jlp (α:=Nat) [5,5,29,58] (fun i=>[(29,.c (.int .i64 (i:Nat)))]) (fun i=>[(p1,.blk 3 (bnF b)),rwO n (aR (bR2 b) b.2.2 i)]) (fun i=>i≤b.2.2.length) (fun i=>b.2.2.length-i) 0 (hr:=?_)
 rintro i (hi:i≤b.2.2.length)
 refine jU 7526 ?_;refine jF3 7006207810 84000200020006000 (fun h50=>?_) fun h50=>?_
 rotate_left
 ·have hie:i=b.2.2.length:=by omega
  subst hie
  refine jU 16 ?_;refine jq (rd_build (n:=5) rfl zr92 pl92 rfl rfl) ?_;refine jF2 165 1 (r13_4 hg n) ?_;refine jq (rd_build (n:=5) rfl zr92 pl92 rfl rfl) ?_;refine jF2 165 1 (r13_5 hg n) ?_;refine jF2 8000700051165119009001 1 (rdone08_ac n (bR4 b) (inv_okR (inv_b4 hg) (by decide))) ?_
  rw [(bun_rput hg).2]
  exact cZ
 refine jq (jrdrA 4) ?_
 refine jqe (jeal (n:=4) zr42 rfl fun p7=>?_)
 refine jqm (jmstF 4 (anF (b.2.2.getD i a00)) ?_ ?_)
 ·exact jal
 refine jU 5 ?_
 have hil:i<b.2.2.length:=by omega
 have ha:=right_an hr hil
 obtain ⟨R1,R2,R3,R4,R5,c1,c2,c3,c4,c5,c6⟩:=anc_calls (gs:=gs) (good_A ha) ha (inv_a hg i (by omega)) (by omega)
 refine jU 16 ?_;refine jq (rd_build (n:=5) rfl zr92 pl92 rfl rfl) ?_;refine jF2 5090165 1 (c1 n) ?_;refine jq (rd_build (n:=5) rfl zr92 pl92 rfl rfl) ?_;refine jF2 50100165 1 (c2 n) ?_;refine jF2 501000165 1 (c3 n) ?_;refine jq (rd_build (n:=5) rfl zr92 pl92 rfl rfl) ?_;refine jF2 505000000165 1 (c4 n) ?_;refine jq (rd_build (n:=5) rfl zr92 pl92 rfl rfl) ?_;refine jF2 12005 1 (c5 n) ?_;refine jq (rd_build (n:=5) rfl zr92 pl92 rfl rfl) ?_;refine jF2 851920084005 1 (c6 n) ?_
 exact jlend (i+1)
end
end
section
open Go.RowKit Cal
theorem text_ext {a b:List UInt8}:(⟨a.toArray⟩:ByteArray)=⟨b.toArray⟩↔a=b:=⟨fun h=>Array.mk.inj (ByteArray.mk.inj h),fun h=>by rw [h]⟩
theorem a_getD {l:List N4} {i:Nat} (h:i<l.length):l.getD i a00=l[i]:=by simp [List.getD,h]
theorem n4_iff {a b:N4}:a=b↔a.1=b.1∧a.2.1=b.2.1∧a.2.2.1=b.2.2.1∧a.2.2.2=b.2.2.2:=by
 obtain ⟨a1,a2,a3,a4⟩:=a
 obtain ⟨b1,b2,b3,b4⟩:=b
 simp
theorem b3_iff {a b:B3}:a=b↔a.1=b.1∧a.2.1=b.2.1∧a.2.2=b.2.2:=by
 obtain ⟨a1,a2,a3⟩:=a
 obtain ⟨b1,b2,b3⟩:=b
 simp
theorem take_next {l r:List N4} {i:Nat} (h1:i<l.length) (h2:i<r.length) (he:l.take i=r.take i) (h:l.getD i a00=r.getD i a00):l.take (i+1)=r.take (i+1):=by
 rw [List.take_succ_eq_append_getElem h1,List.take_succ_eq_append_getElem h2,he,← a_getD,← a_getD,h]
set_option maxHeartbeats 1000000 in
theorem equalA_ac {gs:List Nat} (l r:List N4):ACp gs Tryz.prog 42 [asC l,asC r] (.c (.bool (decide (l=r)))):=by
 refine ac_len 0 rfl fun hlen=>?_;refine jF5 52313167516 26 Tryz.func42 fun al w0 F0 St0=>?_;refine jF3 800030007000516 20513167810 (fun h21=>?_) fun h21=>?_
 ·refine cB ?_
  refine (decide_eq_false fun h=>?_).symm
  rw [h] at h21;omega
 refine jlp (α:=Nat) [4,5,13,25] (fun i=>[(13,.c (.int .i64 (i:Nat)))]) (fun _=>[]) (fun i=>i≤l.length∧l.take i=r.take i) (fun i=>l.length-i) 0 (h0:=⟨by omega,by simp⟩) (hr:=?_)
 rintro i ⟨hi,he⟩
 refine jU 7526 ?_;refine jF3 75116207810 8000700051684000200020006000 (fun h24=>?_) fun h24=>?_
 rotate_left
 ·refine cB ?_
  refine (decide_eq_true ?_).symm
  have e1:l.take i=l:=List.take_of_length_le (by omega)
  have e2:r.take i=r:=List.take_of_length_le (by omega)
  rw [← e1,he,e2]
 refine jcd (oN 0 9) ?_;refine jU 900007070 ?_;refine jyq (jrdrA 4) ?_;refine jU 900007070 ?_;refine jyq (jrdrA 4) ?_;refine jyq (rd_neAgg rfl rfl rfl Tryz.underlying33 (by kernel_rfl) (by kernel_rfl) (.int Tryz.underlying3 (by decide) rfl rfl (.str Tryz.underlying9 (by decide) rfl rfl (.int Tryz.underlying3 (by decide) rfl rfl (.int Tryz.underlying3 (by decide) rfl rfl .nil)))) rfl) ?_;refine jU 880 ?_;refine jF3 8000300050003000300050007000516 8519200840010 (fun h25=>?_) fun h25=>?_
 ·refine cB ?_
  refine (decide_eq_false fun h=>h25 ?_).symm
  rw [h];simp
 refine jlend (i+1) (h1:=?_)
 ·refine ⟨by omega,take_next (by omega) (by omega) he ?_⟩
  rw [n4_iff]
  try simp only [ba_inj,and_true] at *
  (simp_all;done)
set_option maxHeartbeats 2000000 in
theorem rsame13_ac {gs:List Nat} (a b:B3) (hl:a.2.2.length≤1000000):ACp gs Tryz.prog 15 [bnC a,bnC b] (.c (.bool (decide (a=b)))):=by
 refine ac_oF 45 Tryz.func15 fun al w0 F0 St0=>?_;refine jcr ?_
 refine jqe (jebx 3 fun p1=>?_)
 refine jqe (jebx 3 fun p2=>?_)
 refine jU 751 ?_;refine jE (blk_ent 0 (m:=3) (F:=bnF a) rfl (by decide) (fun _=>rfl) (fun j hj=>CEnt.of_eq (fl_map _ hj))) ?_;refine jE (blk_ent 1 (m:=3) (F:=bnF b) rfl (by decide) (fun _=>rfl) (fun j hj=>CEnt.of_eq (fl_map _ hj))) ?_;refine jU 12509050906 ?_;refine jF4 800030007000516900051000000004444444110000000044444 1500600005010050100 11 (fun g157=>?_) fun g157=>?_
 ·refine cB ?_
  refine (decide_eq_false fun h=>?_).symm
  subst h
  (simp_all;done)
 refine jF4 800030007000516900051000000004444444 5500235010003501000 18 (fun g157_2=>?_) fun g157_2=>?_
 ·refine cB ?_
  refine (decide_eq_false fun h=>?_).symm
  subst h
  (simp_all;done)
 refine jF3 800030007000516 7810 (fun h157=>?_) fun h157=>?_
 ·refine cB ?_
  refine (decide_eq_false fun h=>?_).symm
  subst h
  (simp_all;done)
 have hsl:a.1=b.1∧a.2.1=b.2.1∧a.2.2.length=b.2.2.length:=by
  try simp only [text_ext,ba_inj] at *
  (simp_all;omega)
 refine jU 205135010006 ?_
 refine jlp (α:=Nat) [4,5,30,44] (fun i=>[(30,.c (.int .i64 (i:Nat)))]) (fun i=>[(p1,.blk 3 (bnF a)),(p2,.blk 3 (bnF b))]) (fun i=>i≤a.2.2.length∧a.2.2.take i=b.2.2.take i) (fun i=>a.2.2.length-i) 0 (h0:=⟨Nat.zero_le _,by simp⟩) (hr:=?_)
 rintro i ⟨(hi:i≤a.2.2.length),he⟩
 have hsl:a.1=b.1∧a.2.1=b.2.1∧a.2.2.length=b.2.2.length:=by
  try simp only [text_ext,ba_inj] at *
  (simp_all;done)
 refine jU 7526 ?_;refine jF3 207810 8000700051684000200020006000 (fun h160=>?_) fun h160=>?_
 rotate_left
 ·refine cB ?_
  refine (decide_eq_true ?_).symm
  rw [b3_iff]
  refine ⟨hsl.1,hsl.2.1,?_⟩
  have e1:a.2.2.take i=a.2.2:=List.take_of_length_le (by omega)
  have e2:b.2.2.take i=b.2.2:=List.take_of_length_le (by omega)
  rw [← e1,he,e2]
 have hsl:a.1=b.1∧a.2.1=b.2.1∧a.2.2.length=b.2.2.length:=by
  try simp only [text_ext,ba_inj] at *
  (simp_all;done)
 refine jU 75116 ?_;refine jcd (oN 0 11) ?_;refine jyq (jrfa 2 1 false) ?_;refine jU 900007010000 ?_;refine jyq (jrdrA 4) ?_;refine jyq (jrfa 2 1 false) ?_;refine jU 900007010000 ?_;refine jyq (jrdrA 4) ?_;refine jyq (rd_neAgg rfl rfl rfl Tryz.underlying42 (by kernel_rfl) (by kernel_rfl) (.int Tryz.underlying3 (by decide) rfl rfl (.str Tryz.underlying9 (by decide) rfl rfl (.int Tryz.underlying3 (by decide) rfl rfl (.int Tryz.underlying3 (by decide) rfl rfl .nil)))) rfl) ?_;refine jU 880 ?_;refine jF3 8000300050003000300050007000516 840010 (fun h161=>?_) fun h161=>?_
 ·refine cB ?_
  refine (decide_eq_false fun h=>?_).symm
  subst h
  (simp_all;done)
 have hsl:a.1=b.1∧a.2.1=b.2.1∧a.2.2.length=b.2.2.length:=by
  try simp only [ba_inj] at *
  (simp_all;done)
 refine jU 8519200 ?_
 refine jlend (i+1) (h1:=?_)
 ·refine ⟨by omega,take_next (by omega) (by omega) he ?_⟩
  rw [n4_iff]
  try simp only [ba_inj,and_true] at *
  (simp_all;done)
end
section
open Go.RowKit Cal
def sufG (g:Option Nat) (off m:Nat):SV where
 p:=fun _ _ x=>match g with
  | some b=>∃ o cap,x=.slice (some ⟨b,o,none⟩) m cap∧(0<m→o=off)
  | none=>m=0∧x=.slice none 0 0
 st:=fun _ _ h=>h
 one:=fun {St w v} h=>by
  cases g with
  | none=>obtain ⟨_,h⟩:=h;subst h;exact ⟨rfl,rfl⟩
  | some b=>obtain ⟨o,cap,h,_⟩:=h;subst h;exact ⟨rfl,rfl⟩
section
variable {P:Program} {G:Gh} {o:Oper} {s:AS} {t u:TypeId} {x y:Operand}
theorem rd_sufG {e:TypeId} {i n k l:Nat} {g:Option Nat} {lo:Operand} {k1:IntKind} {z:Int} (ho:o.op=.slice t x (some lo) none none) (hx:s.eval x=.os i g 0 n k) (h1:P.underlying t=some (.slice e)) (h5:(P.info? e).map (·.size)=some k) (e1:s.eval lo=.c (.int k1 z)) (q1:z=(l:Nat)) (hl:l≤n):ARd P G o s (.pv (sufG g (l * k) (n-l))):=fun St a w hr=>by
 cases g with
 | some b=>exact rd_suf ho hx h1 h5 e1 q1 hl St a w hr
 | none =>
  obtain ⟨info,hi',hs⟩:=Option.map_eq_some_iff.1 h5
  have v1:a.eval lo=.int k1 (l:Nat):=by have:=evR hr e1;rw [q1] at this;exact this
  obtain ⟨h2,h3⟩:=evR hr hx
  subst h2
  have hl0:l=0:=by omega
  subst hl0
  refine ⟨.slice none 0 0,fun W _=>exec_slice ho ?_,by omega,rfl⟩
  rw [h3]
  simp only [Option.map_some,Option.map_none,v1]
  simp [Instr.sliceAt,Instr.slice,underlying,h1,Instr.sliceBounds,Instr.sliceBound,asIntOf,sizeOf,typeInfo,hi']
theorem src_sufG {i off k m N:Nat} {g:Option Nat} {F:Nat→CV} (hy:s.eval y=.pv (sufG g off m)) (hH:Holds s i g N F) (hN:off+m * k≤N):ASrc P G s y k m fun j=>F (off+j):=by
 cases g with
 | some b=>exact src_suf hy hH hN
 | none =>
  intro St a w h
  obtain ⟨h1,h2⟩:=evR h hy
  rw [h2]
  subst h1
  exact src_none
end
theorem pre_cells (o:List N4) (k:Nat) {j:Nat} (hj:j<(o.take k).length * 4):asF o (0+j)=asF (o.take k) j:=by
 obtain ⟨q,r,hr,rfl⟩:∃ q r,r<4∧j=q * 4+r:=⟨j / 4,j % 4,Nat.mod_lt _ (by decide),by omega⟩
 rw [Nat.zero_add]
 have e1:asF (o.take k) (q * 4+r)=anF ((o.take k).getD q a00) r:=rowF_at hr
 have e2:asF o (q * 4+r)=anF (o.getD q a00) r:=rowF_at hr
 rw [List.length_take] at hj
 rw [e1,e2,List.getD_eq_getElem?_getD,List.getD_eq_getElem?_getD,List.getElem?_take_of_lt (by omega)]
theorem suf_cells (o:List N4) (k:Nat) (j:Nat):asF o (k * 4+j)=asF (o.drop k) j:=by
 obtain ⟨q,r,hr,rfl⟩:∃ q r,r<4∧j=q * 4+r:=⟨j / 4,j % 4,Nat.mod_lt _ (by decide),by omega⟩
 have e1:asF (o.drop k) (q * 4+r)=anF ((o.drop k).getD q a00) r:=rowF_at hr
 have e2:asF o ((k+q) * 4+r)=anF (o.getD (k+q) a00) r:=rowF_at hr
 rw [e1,show k * 4+(q * 4+r)=(k+q) * 4+r by omega,e2,List.getD_eq_getElem?_getD,List.getD_eq_getElem?_getD,List.getElem?_drop]
theorem pos_down {g:Int} {o:List N4} {k:Nat} (h0:0<k) (h:g<(o.getD (k-1) a00).1):posA g o k=posA g o (k-1):=by
 obtain ⟨k,rfl⟩:∃ j,k=j+1:=⟨k-1,by omega⟩
 rw [Nat.add_sub_cancel] at h ⊢
 rw [posA,if_pos h]
theorem pos_stop {g:Int} {o:List N4} {k:Nat} (h:k=0∨(o.getD (k-1) a00).1≤g):posA g o k=k:=by
 cases k with
 | zero=>rfl
 | succ k =>
  rcases h with h|h
  ·omega
  ·rw [Nat.add_sub_cancel] at h
   rw [posA,if_neg (by omega)]
theorem srt_succ {l:List N4} {i:Nat} (hi:i<l.length):sortA (l.take (i+1))=insA (sortA (l.take i)) (l.getD i a00):=by
 rw [List.take_succ_eq_append_getElem hi,sortA_snoc,a_getD hi]
set_option maxHeartbeats 4000000 in
theorem rsorted13_ac {gs:List Nat} (g:Option Nat) (l:List N4) (hl:l.length≤1000):AC gs Tryz.prog 36 [ownA g l] [.os 0 g 0 l.length 4] (fun r H'=>r=asC (sortA l)∧∃ x,H'=[x]):=by
 refine jF5 516 48 Tryz.func36 fun al w0 F0 St0=>?_;refine jE (freeze 0 rfl) ?_;refine jE (thaw 0 (fun p q=>anF (l.getD p a00) q) rfl rfl (by omega) (fun p q hp hq=>CEnt.of_eq (by rw [Nat.zero_add];exact rowF_at hq))) ?_;refine jcr ?_;refine jF6 2051316751 0 4 zr42 fun p1=>?_
 refine jlp (α:=Nat×Option Nat) [3,3,5,7,11,46] (fun (i,g)=>[(3,.os 1 g 0 (sortA (l.take i)).length 4),(11,.c (.int .i64 (i:Nat)))]) (fun (i,g')=>[(g,.frz (l.length * 4) (asF l)),ownA g' (sortA (l.take i))]) (fun p=>p.1≤l.length) (fun p=>l.length-p.1) (0,p1) (hH:=.same (.blk rfl (fun j hj=>absurd hj (Nat.not_lt_zero j)) .nil)) (hr:=?_)
 rintro ⟨i,g'⟩ (hi:i≤l.length)
 have hsl:(sortA (l.take i)).length=i:=by rw [sortA_len,List.length_take];omega
 refine jU 7526 ?_;refine jF3 7006207810 84000200020006000 (fun h67=>?_) fun h67=>?_
 rotate_left
 ·have hie:i=l.length:=by omega
  subst hie
  refine jE (freeze 1 rfl) ?_;refine jE (thaw 3 (fun p q=>anF ((sortA l).getD p a00) q) rfl rfl (by omega) (fun p q hp hq=>CEnt.of_eq (by rw [List.take_length,Nat.zero_add];exact rowF_at hq))) ?_;refine jU 70005116 ?_
  exact end_ownV (.inl rfl) [0] (by decide) rfl (res_1 rfl (arv_tmp rfl)) (m:=asC (sortA l)) (CEnt.rsL (by rw [List.take_length]) rfl) ⟨rfl,_,rfl⟩
 refine jq (jrdrA 4) ?_
 refine jqe (jeal (n:=4) zr42 rfl fun p2=>?_)
 refine jqm (jmstF 4 (anF (l.getD i a00)) ?_ ?_)
 ·exact jal
 refine jU 5 ?_
 have hil:i<l.length:=by omega
 refine jU 20751316 ?_
 refine jlp (α:=Nat) [6,6,17,31] (fun k=>[(6,.c (.int .i64 (k:Nat)))]) (fun k=>[(g,.frz (l.length * 4) (asF l)),ownA g' (sortA (l.take i)),(p2,.blk 4 (anF (l.getD i a00)))]) (fun k=>k≤i∧posA (l.getD i a00).1 (sortA (l.take i)) (sortA (l.take i)).length=posA (l.getD i a00).1 (sortA (l.take i)) k) (fun k=>k) i (h0:=⟨Nat.le_refl _,by rw [hsl]⟩) (hr:=?_)
 rintro k ⟨hk,hp⟩
 refine jU 77 ?_;refine jcd (oN 0 13) ?_;refine jU 7080070 ?_;refine jysp 19 (fun g69=>?_) fun g69=>?_
 rotate_left
 ·refine jU 84000200020006000300880300000600600600600600600600600600 ?_
  have hq:posA (l.getD i a00).1 (sortA (l.take i)) (sortA (l.take i)).length=k:=by
   rw [hp]
   exact pos_stop (by (left;omega))
  have hins:(sortA (l.take i)).take k++[l.getD i a00]++(sortA (l.take i)).drop k=sortA (l.take (i+1)):=by
   rw [srt_succ hil]
   unfold insA
   rw [hq,List.append_assoc]
   rfl
  refine jcr ?_;refine jF6 11 0 4 zr42 fun p3=>?_;refine jq (jrso (hl:=(bd_none _ _)) (hu:=(bd_some rfl (show _=((k:Nat):Int) by omega)))) ?_
  refine jqm (m_appendC (rowC_row 4 anF a00) (l:=[]) (l2:=(sortA (l.take i)).take k) rfl rfl rfl rfl (Nat.le_of_eq (Nat.zero_mul _)) (fun j hj=>absurd hj (by simp)) (src_os (i:=1) (off:=0) (N:=(sortA (l.take i)).length * 4) (F:=asF (sortA (l.take i))) rfl (.inl rfl) (by omega)) (by rw [List.length_take];omega) (fun j hj=>CEnt.of_eq (pre_cells _ _ hj)) Tryz.underlying28 nu28 sz42 zr42 by42 rfl (by (simp;omega)) (by (simp;omega)) (fun j hj=>leaf_a _ (Nat.mod_lt _ (by decide))) rfl rfl rfl (fun p4=>?_))
  refine jU 1651 ?_;refine jqo (jrdoA 4) ?_
  refine jqe (jebl 4 4 zr42 fun p5=>?_)
  refine jqm (jac 40 (rowC_row 4 anF a00) (l:=(sortA (l.take i)).take k) (l2:=[l.getD i a00]) fun p6=>?_)
  refine jU 11120051 ?_;refine jq ((rd_sufG (i:=1) (g:=g') (n:=(sortA (l.take i)).length) (l:=k) rfl rfl Tryz.underlying28 sz42 rfl rfl (by omega))) ?_
  refine jqm (m_appendC (rowC_row 4 anF a00) (l:=(sortA (l.take i)).take k++[l.getD i a00]) (l2:=(sortA (l.take i)).drop k) rfl rfl rfl rfl (Nat.le_refl _) (fun _ _=>cZ) (src_sufG (i:=1) (g:=g') (F:=asF (sortA (l.take i))) (off:=k * 4) (N:=(sortA (l.take i)).length * 4) rfl (.inl rfl) (by omega)) (by rw [List.length_drop]) (fun j _=>CEnt.of_eq (suf_cells _ _ _)) Tryz.underlying28 nu28 sz42 zr42 by42 rfl (by (simp;omega)) (by (simp;omega)) (fun j hj=>leaf_a _ (Nat.mod_lt _ (by decide))) rfl rfl rfl (fun p7=>?_))
  refine jU 1 ?_;refine seq_ent (pick_ent (H':=[_,_]) [0,3] (by decide) rfl) ?_
  rw [hins]
  refine jU 851920084005 ?_
  exact jlend (i+1,p7)
 refine jU 300007070 ?_;refine jyq (jri (i:=(k-1)) (hz:=by omega)) ?_;refine jU 900000 ?_;refine jyo (jrdo (v:=.c (.int .i64 ((sortA (l.take i)).getD (k-1) a00).1)) (hv:=by rw [Nat.zero_add];exact rowF_at (by decide))) ?_;refine jU 880300000080010000900000 ?_;refine jF3 8400519120020810 84000200020006000 (fun h69=>?_) fun h69=>?_
 ·refine jlend (k-1) (h1:=?_)
  ·refine ⟨by omega,?_⟩
   rw [hp]
   exact pos_down (by omega) (by (simp_all;done))
 have hq:posA (l.getD i a00).1 (sortA (l.take i)) (sortA (l.take i)).length=k:=by
  rw [hp]
  exact pos_stop (by (right;omega))
 have hins:(sortA (l.take i)).take k++[l.getD i a00]++(sortA (l.take i)).drop k=sortA (l.take (i+1)):=by
  rw [srt_succ hil]
  unfold insA
  rw [hq,List.append_assoc]
  rfl
 refine jcr ?_;refine jF6 11 0 4 zr42 fun p3=>?_;refine jq (jrso (hl:=(bd_none _ _)) (hu:=(bd_some rfl (show _=((k:Nat):Int) by omega)))) ?_
 refine jqm (m_appendC (rowC_row 4 anF a00) (l:=[]) (l2:=(sortA (l.take i)).take k) rfl rfl rfl rfl (Nat.le_of_eq (Nat.zero_mul _)) (fun j hj=>absurd hj (by simp)) (src_os (i:=1) (off:=0) (N:=(sortA (l.take i)).length * 4) (F:=asF (sortA (l.take i))) rfl (.inl rfl) (by omega)) (by rw [List.length_take];omega) (fun j hj=>CEnt.of_eq (pre_cells _ _ hj)) Tryz.underlying28 nu28 sz42 zr42 by42 rfl (by (simp;omega)) (by (simp;omega)) (fun j hj=>leaf_a _ (Nat.mod_lt _ (by decide))) rfl rfl rfl (fun p4=>?_))
 refine jU 1651 ?_;refine jqo (jrdoA 4) ?_
 refine jqe (jebl 4 4 zr42 fun p5=>?_)
 refine jqm (jac 40 (rowC_row 4 anF a00) (l:=(sortA (l.take i)).take k) (l2:=[l.getD i a00]) fun p6=>?_)
 refine jU 11120051 ?_;refine jq ((rd_sufG (i:=1) (g:=g') (n:=(sortA (l.take i)).length) (l:=k) rfl rfl Tryz.underlying28 sz42 rfl rfl (by omega))) ?_
 refine jqm (m_appendC (rowC_row 4 anF a00) (l:=(sortA (l.take i)).take k++[l.getD i a00]) (l2:=(sortA (l.take i)).drop k) rfl rfl rfl rfl (Nat.le_refl _) (fun _ _=>cZ) (src_sufG (i:=1) (g:=g') (F:=asF (sortA (l.take i))) (off:=k * 4) (N:=(sortA (l.take i)).length * 4) rfl (.inl rfl) (by omega)) (by rw [List.length_drop]) (fun j _=>CEnt.of_eq (suf_cells _ _ _)) Tryz.underlying28 nu28 sz42 zr42 by42 rfl (by (simp;omega)) (by (simp;omega)) (fun j hj=>leaf_a _ (Nat.mod_lt _ (by decide))) rfl rfl rfl (fun p7=>?_))
 refine jU 1 ?_;refine seq_ent (pick_ent (H':=[_,_]) [0,3] (by decide) rfl) ?_
 rw [hins]
 refine jU 851920084005 ?_
 exact jlend (i+1,p7)
end
section
open Go.RowKit Cal
set_option maxHeartbeats 2000000 in
theorem rgid_w {gs:List Nat} {L2 L3:List (List UInt8)} {K2 K3:Nat} {v:VV} (hv:v.b.length≤100000) (hD:QD gs 53 L2 K2 [askC ⟨6,0,16,16⟩] (valC v) L3 K3):QD gs 55 L2 K2 [] (strC (flatX v.b)) L3 K3:=fun n=>by
 obtain ⟨b,hb⟩:∃ b,b=v.b:=⟨_,rfl⟩
 rw [← hb] at hv ⊢
 refine jF5 16516 47 Tryz.func55 fun al w0 F0 St0=>?_;refine jq (rd_build (n:=4) rfl zr95 pl95 rfl rfl) ?_
 refine jqm (jmcE 0 (hD n) ?_)
 refine jq (jrf 3 1) ?_;refine jU 51 ?_;refine jE (weaken 3 (bsC b) (CEnt.of_eq (by rw [hb];rfl))) ?_;refine jcr ?_;refine jF6 2051316751 0 1 zr5 fun p2=>?_
 refine jlp (α:=Nat×Option Nat) [4,4,6,6,8,8,16,44] (fun (i,g)=>[(16,.c (.int .i64 (i:Nat))),(4,.os 1 g 0 (flatX (b.take i)).length 1)]) (fun (i,g)=>[rqE n L3 K3,(g,.blk (flatX (b.take i)).length (byF (flatX (b.take i))))]) (fun (i,g)=>i≤b.length) (fun (i,g)=>b.length-i) (0,p2) (hH:=.same (.blk rfl (fun j hj=>absurd hj (Nat.not_lt_zero j)) .nil)) (hr:=?_)
 rintro ⟨i,g⟩ (hi:i≤b.length)
 have hbl:=(b.getD i 0).toNat_lt
 have hfl:(flatX (b.take i)).length≤2000000:=by rw [flatX_len,List.length_take];omega
 refine jU 7526 ?_;refine jF3 100000016000001651607006207810 84000200020006000 (fun h63=>?_) fun h63=>?_
 rotate_left
 ·obtain rfl:i=b.length:=by omega
  simp only [List.take_length]
  refine jU 16 ?_;refine jqo jrbo ?_;refine jU 700051 ?_
  exact jnh
 refine jqe (jebl 2 1 zr5 fun p3=>?_)
 refine seq_ent (freeze 2 rfl) ?_;refine seq_ent (thawBL 24 ([UInt8.ofNat ((b.getD i 0).toNat / 16),UInt8.ofNat ((b.getD i 0).toNat % 16)]) rfl rfl rfl rfl (.cons (cI ((by rw [UInt8.toNat_ofNat'];omega))) (.cons (cI ((by rw [UInt8.toNat_ofNat'];omega))) .nil))) ?_;refine jU 20513 ?_
 have hl2:[UInt8.ofNat ((b.getD i 0).toNat / 16),UInt8.ofNat ((b.getD i 0).toNat % 16)].length=2:=rfl
 refine jE (pick_ent (H':=[_,_]) [0,1] (by decide) rfl) ?_
 refine jlp (α:=Nat×Option Nat) [4,4,8,8,26,43] (fun (q,g)=>[(26,.c (.int .i64 (q:Nat))),(4,.os 1 g 0 (flatX (b.take i)++fg2 (b.getD i 0) q).length 1)]) (fun (q,g)=>[rqE n L3 K3,(g,.blk (flatX (b.take i)++fg2 (b.getD i 0) q).length (byF (flatX (b.take i)++fg2 (b.getD i 0) q)))]) (fun (q,g)=>q≤2) (fun (q,g)=>2-q) (0,g) (he:=?_) (hH:=?_) (hr:=?_)
 ·simp only [fg2,List.take_zero,List.append_nil]
  exact .cons cZ (.cons cZ .nil)
 ·simp only [fg2,List.take_zero,List.append_nil]
  exact HEnt.refl _
 rintro ⟨q,g⟩ (hq:q≤2)
 have h16:=hb2_lt (b.getD i 0) q
 have hql:(fg2 (b.getD i 0) q).length≤2:=by unfold fg2;rw [List.length_take];exact Nat.min_le_right _ _
 have hgl:(flatX (b.take i)++fg2 (b.getD i 0) q).length≤2000002:=by rw [List.length_append];omega
 refine jU 7526 ?_;refine jF3 51607006207810 851920084004000200020006000 (fun h64=>?_) fun h64=>?_
 rotate_left
 ·refine jlend (i+1,g) (h5:=?_) (h7:=?_)
  ·obtain rfl:q=2:=by omega
   have e:flatX (b.take i)++fg2 (b.getD i 0) 2=flatX (b.take (i+1)):=(flatX_take (by omega)).symm
   simp only [← e]
   exact .cons (cI (by omega)) (.cons cZ .nil)
  ·obtain rfl:q=2:=by omega
   have e:flatX (b.take i)++fg2 (b.getD i 0) 2=flatX (b.take (i+1)):=(flatX_take (by omega)).symm
   simp only [← e]
   exact HEnt.refl _
 refine jE (weaken 8 (.c (.int .u8 ((hb2 (b.getD i 0) q:Nat):Int))) cZ) ?_;refine jU 5216 ?_;refine jF3 911200 9911200 (fun h65=>?_) fun h65=>?_
 ·refine jqe (jebl 1 1 zr5 fun p4=>?_)
  refine jqm (jab (l2:=[hx (hb2 (b.getD i 0) q)]) (hs:=by exact sbL (hh:=by exact ⟨cI ((hx_lo (by omega))),True.intro⟩)) fun p5=>?_)
  refine jU 8519200840051 ?_
  refine jlend (q+1,p5) (h5:=?_) (h7:=?_)
  ·simp only [← fg2_next (b.getD i 0) (show q<2 by omega),← List.append_assoc]
   exact .cons (cI (by omega)) (.cons cZ .nil)
  ·simp only [← fg2_next (b.getD i 0) (show q<2 by omega),← List.append_assoc]
   exact HEnt.refl _
 refine jqe (jebl 1 1 zr5 fun p4=>?_)
 refine jqm (jab (l2:=[hx (hb2 (b.getD i 0) q)]) (hs:=by exact sbL (hh:=by exact ⟨cI ((hx_hi (by omega) h16)),True.intro⟩)) fun p5=>?_)
 refine jU 8519200840051 ?_
 refine jlend (q+1,p5) (h5:=?_) (h7:=?_)
 ·simp only [← fg2_next (b.getD i 0) (show q<2 by omega),← List.append_assoc]
  exact .cons (cI (by omega)) (.cons cZ .nil)
 ·simp only [← fg2_next (b.getD i 0) (show q<2 by omega),← List.append_assoc]
  exact HEnt.refl _
theorem idb_len {l:List (List UInt8)} {k:Nat} (h:(nowL l).length≤100000):(readR ⟨6,0,16,16⟩ l k).v.b.length≤100000:=by
 have hbd:=nextM_bd (nowL l)
 have hbb:(nextR 4 l k).body.length≤100000:=by
  unfold nextR
  repeat' split
  all_goals (simp only [List.length_nil];omega)
 unfold readR
 rw [if_neg (by decide),if_neg (by decide),if_neg (by decide)]
 unfold readV
 split
 ·show (saidM ⟨6,0,16,16⟩ (nextR 4 l k).body).1.b.length≤_
  show (octM 16 16 (nextR 4 l k).body).1.length≤_
  unfold octM
  repeat' split
  all_goals (simp only [List.length_nil];omega)
 ·simp [VV.none]
end
section
open Go.RowKit Cal
section
variable {α:Type} {sp sq:StepR α} {l0:List (List UInt8)} {k0:Nat} {most:Int}
theorem leaveL_bd (l:List (List UInt8)) (k:Nat) (h:0<l.length):0<(leaveL l k).length∧(leaveL l k).length≤l.length:=by
 obtain ⟨_,_,f3,f4⟩:=leave_mu (l:=l) (k:=k) h
 by_cases h0:leaveK l k=0
 ·have:=f3 h0;omega
 ·rw [f4 h0];omega
theorem enterL_bd (t:Int) (l:List (List UInt8)) (k:Nat) (h:0<l.length):0<(enterL t l k).length∧(enterL t l k).length≤l.length+1:=by
 obtain ⟨_,_,_,e4,e5,_⟩:=enter_mu (t:=t) (l:=l) (k:=k) h
 by_cases h0:(enterR t l k).k=0
 ·rw [e4 h0];omega
 ·rw [e5 h0];omega
theorem leaveK_of {l:List (List UInt8)} {k:Nat} (h:leaveK l k=0):k=0:=by
 refine Nat.eq_zero_of_not_pos fun hp=>?_
 unfold leaveK at h
 rw [if_pos (by omega)] at h
 omega
theorem endG_cases (sp:StepR α) (l0:List (List UInt8)) (k0:Nat) (most:Int):endG sp l0 k0 most=(leaveL (stG sp l0 k0 (jG sp l0 k0 most)).1.1 3,leaveK (stG sp l0 k0 (jG sp l0 k0 most)).1.1 3)∨endG sp l0 k0 most=(leaveL (stG sp l0 k0 (jG sp l0 k0 most)).1.1 (stG sp l0 k0 (jG sp l0 k0 most)).1.2,leaveK (stG sp l0 k0 (jG sp l0 k0 most)).1.1 (stG sp l0 k0 (jG sp l0 k0 most)).1.2):=by
 unfold endG
 dsimp only
 split
 ·exact .inl rfl
 ·exact .inr rfl
theorem rowG_k {h:(endG sp l0 k0 most).2=0}:(stG sp l0 k0 (jG sp l0 k0 most)).1.2=0:=by
 rcases endG_cases sp l0 k0 most with e|e
 ·rw [e] at h
  dsimp only at h
  have:=leaveK_of h
  omega
 ·rw [e] at h
  dsimp only at h
  exact leaveK_of h
theorem row_bd (ok:StepOk sp) (hl:0<l0.length):(0<(endG sp l0 k0 most).1.length∧(endG sp l0 k0 most).1.length≤l0.length+16)∧muS (endG sp l0 k0 most).1 (endG sp l0 k0 most).2≤muS l0 k0:=by
 have hs:=jG_stop (k0:=k0) (most:=most) ok hl
 have hb:=stG_bd (k0:=k0) (most:=most) ok hl _ hs.1
 generalize hS:(stG sp l0 k0 (jG sp l0 k0 most)).1=S at *
 have h0:0<S.1.length:=by omega
 rcases endG_cases sp l0 k0 most with e|e
 ·rw [e,hS]
  have:=leaveL_bd S.1 3 h0
  have h3:=(leave_mu (l:=S.1) (k:=3) h0).2.1
  have h4:muS S.1 3≤muS S.1 S.2:=by
   unfold muS
   rw [if_neg (by decide)]
   omega
  exact ⟨by dsimp only;omega,by dsimp only;omega⟩
 ·rw [e,hS]
  have:=leaveL_bd S.1 S.2 h0
  have h3:=(leave_mu (l:=S.1) (k:=S.2) h0).2.1
  exact ⟨by dsimp only;omega,by dsimp only;omega⟩
theorem row_few (ok:StepOk sp) (hl:0<l0.length) {m:Nat} (hm:most=(m:Int)):(stG sp l0 k0 (jG sp l0 k0 most)).2.length≤m:=by
 obtain ⟨hg,hs⟩:=jG_stop (k0:=k0) (most:=most) ok hl
 rw [stG_out]
 rcases Nat.eq_zero_or_pos (jG sp l0 k0 most) with hz|hz
 ·omega
 ·have:=hg (jG sp l0 k0 most-1) (by omega)
  unfold goB at this
  rw [Bool.and_eq_true,decide_eq_true_eq] at this
  omega
theorem stG_same (h1:∀ l k,(sp l k).1=(sq l k).1):∀ j,(stG sp l0 k0 j).1=(stG sq l0 k0 j).1
 | 0=>rfl
 | j+1=>by
  show (sp (stG sp l0 k0 j).1.1 (stG sp l0 k0 j).1.2).1=(sq (stG sq l0 k0 j).1.1 (stG sq l0 k0 j).1.2).1
  rw [stG_same h1 j,h1]
theorem goB_same (h1:∀ l k,(sp l k).1=(sq l k).1):goB sp l0 k0 most=goB sq l0 k0 most:=by
 funext j
 unfold goB
 rw [stG_same h1]
theorem jG_same (h1:∀ l k,(sp l k).1=(sq l k).1):jG sp l0 k0 most=jG sq l0 k0 most:=by
 unfold jG
 rw [goB_same h1]
theorem endG_same (h1:∀ l k,(sp l k).1=(sq l k).1):endG sp l0 k0 most=endG sq l0 k0 most:=by
 unfold endG
 rw [jG_same h1,stG_same h1]
theorem stG_eq (h1:∀ l k,(sp l k).1=(sq l k).1) (h2:∀ l k,(sp l k).1.2=0→(sp l k).2=(sq l k).2) (hz:∀ l k,(sp l k).1.2=0→0<l.length→k=0) (hp:∀ l k,0<l.length→0<(sp l k).1.1.length) (hl:0<l0.length):∀ j,0<(stG sp l0 k0 j).1.1.length∧((stG sp l0 k0 j).1.2=0→(stG sp l0 k0 j).2=(stG sq l0 k0 j).2)
 | 0=>⟨hl,fun _=>rfl⟩
 | j+1=>by
  obtain ⟨i1,i2⟩:=stG_eq h1 h2 hz hp hl j
  refine ⟨hp _ _ i1,fun h=>?_⟩
  have h':(sp (stG sp l0 k0 j).1.1 (stG sp l0 k0 j).1.2).1.2=0:=h
  have hk:=hz _ _ h' i1
  show (stG sp l0 k0 j).2++[_]=(stG sq l0 k0 j).2++[_]
  rw [i2 hk,h2 _ _ h',stG_same h1]
end
def fsA:List Fd:=[fGe,fId,fMo,fMo]
theorem ok_fsA:∀ f ∈ fsA,OkF f:=fun f hf=>by
 simp only [fsA,List.mem_cons,List.not_mem_nil,or_false] at hf
 rcases hf with rfl|rfl|rfl|rfl
 ·exact ok_Ge
 ·exact ok_Id
 ·exact ok_Mo
 ·exact ok_Mo
theorem fields_same:∀ (fs:List Fd) {l:List (List UInt8)} {k:Nat},(∀ f ∈ fs,OkF f∧f.call≠0)→0<l.length→(readFs fs l k).1.1.length=l.length∧muS (readFs fs l k).1.1 (readFs fs l k).1.2≤muS l k
 | [],l,k,_,hl=>⟨rfl,Nat.le_refl _⟩
 | f::fs,l,k,ho,hl=>by
  obtain ⟨o1,o2⟩:=ho f List.mem_cons_self
  have e:(readF f l k).1=((readR (fdA f) l k).l,(readR (fdA f) l k).k):=by unfold readF;rw [if_neg o2]
  obtain ⟨_,h2,_,_,_,h6,_⟩:=read_mu (fdA f) (l:=l) (k:=k) hl
  have h6:=h6 (by unfold OkF at o1;show f.call≠1;omega) (by unfold OkF at o1;show f.call≠2;omega)
  obtain ⟨i1,i2⟩:=fields_same fs (l:=(readR (fdA f) l k).l) (k:=(readR (fdA f) l k).k) (fun g hg=>ho g (List.mem_cons_of_mem _ hg)) (by omega)
  show (readFs fs (readF f l k).1.1 (readF f l k).1.2).1.1.length=_∧muS (readFs fs (readF f l k).1.1 (readF f l k).1.2).1.1 (readFs fs (readF f l k).1.1 (readF f l k).1.2).1.2≤_
  rw [e]
  exact ⟨i1.trans h6,Nat.le_trans i2 h2⟩
theorem ok_fsA0:∀ f ∈ fsA,OkF f∧f.call≠0:=fun f hf=>⟨ok_fsA f hf,by
 simp only [fsA,List.mem_cons,List.not_mem_nil,or_false] at hf
 rcases hf with rfl|rfl|rfl|rfl <;> decide⟩
def ag (l:List (List UInt8)) (k:Nat):=readFs fsA (enterL 48 l k) (enterR 48 l k).k
def agE (l:List (List UInt8)) (k:Nat):List (List UInt8)×Nat:=(leaveL (ag l k).1.1 (ag l k).1.2,leaveK (ag l k).1.1 (ag l k).1.2)
def ancOf (vs:List V4):N4:=((vs.getD 0 V4.z).n,flatX (vs.getD 1 V4.z).b,(vs.getD 2 V4.z).n,(vs.getD 3 V4.z).n)
def noKey (k:Nat) (a:N4):N4:=if k=0 then a else (a.1,[],a.2.2)
def rancSp:StepR N4:=fun l k=>(agE l k,ancOf (ag l k).2)
def ancSp:StepR N4:=fun l k=>(agE l k,noKey (agE l k).2 (ancOf (ag l k).2))
theorem ag_bd {l:List (List UInt8)} {k:Nat} (hl:0<l.length):muS (agE l k).1 (agE l k).2≤muS l k∧(k=0→muS (agE l k).1 (agE l k).2<muS l k)∧((agE l k).2=0→k=0∧(agE l k).1.length=l.length)∧l.length≤(agE l k).1.length∧(agE l k).1.length≤l.length+1:=by
 obtain ⟨e0,e1,e2,e3,e4,e5⟩:=enter_mu (t:=48) (l:=l) (k:=k) hl
 have el:=enterL_bd 48 l k hl
 obtain ⟨f1,f2⟩:=fields_same fsA (l:=enterL 48 l k) (k:=(enterR 48 l k).k) ok_fsA0 el.1
 have f3:=(fields_k fsA (l:=enterL 48 l k) (k:=(enterR 48 l k).k) ok_fsA el.1).1
 have hag:readFs fsA (enterL 48 l k) (enterR 48 l k).k=ag l k:=rfl
 rw [hag] at f1 f2 f3
 obtain ⟨g1,g2,g3,g4⟩:=leave_mu (l:=(ag l k).1.1) (k:=(ag l k).1.2) (by omega)
 have he:l.length≤(enterL 48 l k).length:=by
  by_cases h0:(enterR 48 l k).k=0
  ·rw [e3 h0];omega
  ·rw [e4 h0];omega
 show muS (leaveL (ag l k).1.1 (ag l k).1.2) (leaveK (ag l k).1.1 (ag l k).1.2)≤_∧(_→muS (leaveL (ag l k).1.1 (ag l k).1.2) (leaveK (ag l k).1.1 (ag l k).1.2)<_)∧(leaveK (ag l k).1.1 (ag l k).1.2=0→_∧(leaveL (ag l k).1.1 (ag l k).1.2).length=_)∧_≤(leaveL (ag l k).1.1 (ag l k).1.2).length∧(leaveL (ag l k).1.1 (ag l k).1.2).length≤_
 refine ⟨by omega,fun h=>by have:=e2 h;omega,fun h=>?_,?_,?_⟩
 ·obtain ⟨h1,h2,h3⟩:=g3 h
  have h4:=f3 h1
  have h5:=e3 h4
  refine ⟨?_,by omega⟩
  refine Nat.eq_zero_of_not_pos fun hk=>?_
  have:=(e0 (by omega)).2
  omega
 ·by_cases h0:leaveK (ag l k).1.1 (ag l k).1.2=0
  ·obtain ⟨h1,h2,h3⟩:=g3 h0
   have h5:=e3 (f3 h1)
   omega
  ·rw [g4 h0];omega
 ·by_cases h0:leaveK (ag l k).1.1 (ag l k).1.2=0
  ·have:=(g3 h0).2;omega
  ·rw [g4 h0];omega
theorem ag_ok {α:Type} (f:List (List UInt8)→Nat→α):StepOk (fun l k=>(agE l k,f l k)) :=
 ⟨fun l k hl hm=>(ag_bd hl).2.1 (more_pos hm).1,fun l k hl hm h=>((ag_bd hl).2.2.1 h).2,fun l k hl hm=>by have:=(ag_bd (k:=k) hl).2.2.2;exact ⟨this.1,by show (agE l k).1.length≤_;omega⟩⟩
theorem anc_ok:StepOk ancSp:=ag_ok _
theorem ranc_ok:StepOk rancSp:=ag_ok _
def vsA (a:N4):List V4:=[vN4 a.1,vB4 (hexB a.2.1),vN4 a.2.2.1,vN4 a.2.2.2]
theorem vsA_enc (a:N4):encFs fsA (vsA a)=(ancX a).2:=by rw [ancX_eq];rfl
theorem vsA_of {a:N4} (h:GoodA a):ancOf (vsA a)=a:=by
 show (a.1,flatX (hexB a.2.1),a.2.2.1,a.2.2.2)=a
 rw [h.hx]
theorem vals_of13 {f:Fd} {v:V4} (h:GoodF f v):(f.call=6→v=vB4 v.b)∧(f.call=3→v=vN4 v.n)∧(f.call=9→v=vN4 v.n):=by
 refine ⟨fun hc=>?_,fun hc=>?_,fun hc=>?_⟩
 all_goals
  rcases h with ⟨h1,h2,_⟩|⟨h1,h2,_⟩|⟨h1,h2,_⟩|⟨h1,h2,_⟩|⟨h1,h2,_⟩
  all_goals first|exact h2|(exfalso;omega)
theorem anc_fb:StepFB ancSp ancB GoodA:=by
 refine ⟨fun ls a r h=>?_,fun ls x k h=>?_,fun a _=>elB_pos _⟩
 ·have hl:=(anc_len h).1
  obtain ⟨e1,e2,_⟩:=enter_fwd ls (t:=48) (b:=(ancX a).2) r (by decide) (by omega)
  have hf:=fields_fwd (fs:=fsA) (vs:=vsA a) ok_fsA ⟨h.ge,h.ky,h.fr,h.til,trivial⟩ (ls++[r]) []
  rw [vsA_enc,List.append_nil] at hf
  have hag:ag (ls++[ancB a++r]) 0=((ls++[r]++[[]],0),vsA a):=by
   unfold ag
   rw [show ancB a=putL 48 (ancX a).2 from rfl,e1,e2]
   exact hf
  have hlv:=leave_fwd (ls:=ls++[r]) (by simp)
  have hE:agE (ls++[ancB a++r]) 0=(ls++[r],0):=by
   unfold agE
   rw [hag]
   dsimp only
   rw [hlv.1,hlv.2]
  unfold ancSp noKey
  rw [hE,hag,if_pos rfl,vsA_of h]
 ·have h0:leaveK (ag (ls++[x]) k).1.1 (ag (ls++[x]) k).1.2=0:=h
  have hk1:(ag (ls++[x]) k).1.2=0:=leaveK_of h0
  have el:=enterL_bd 48 (ls++[x]) k (by simp)
  have hk2:=(fields_k fsA (l:=enterL 48 (ls++[x]) k) (k:=(enterR 48 (ls++[x]) k).k) ok_fsA el.1).1 hk1
  obtain ⟨hk0,b,r,e1,e2,e3,e4⟩:=enter_back (t:=48) (by decide) hk2
  have hag:ag (ls++[x]) k=readFs fsA (ls++[r]++[b]) 0:=by
   unfold ag
   rw [e3,hk2]
  rw [hag] at hk1 h0
  obtain ⟨_,vs,r2,g1,g2,g3⟩:=fields_back ok_fsA hk1
  rw [g3] at h0 hag
  obtain ⟨_,y1,y2,y3⟩:=leave_back h0
  subst y1
  match vs,g1 with
  | [v1,v2,v3,v4],⟨q1,q2,q3,q4,_⟩ =>
   have w1:=(vals_of13 q1).2.1 rfl
   have w2:=(vals_of13 q2).1 rfl
   have w3:=(vals_of13 q3).2.2 rfl
   have w4:=(vals_of13 q4).2.2 rfl
   have ha:vsA (ancOf [v1,v2,v3,v4])=[v1,v2,v3,v4]:=by
    show [vN4 v1.n,vB4 (hexB (flatX v2.b)),vN4 v3.n,vN4 v4.n]=_
    rw [hexB_flat,← w1,← w2,← w3,← w4]
   have hE:agE (ls++[x]) k=(ls++[r],0):=by
    unfold agE
    rw [hag]
    dsimp only
    rw [y3,h0]
   have hga:GoodA (ancOf [v1,v2,v3,v4]):=by
    have e1:vN4 (ancOf [v1,v2,v3,v4]).1=v1:=w1.symm
    have e2:vB4 (hexB (ancOf [v1,v2,v3,v4]).2.1)=v2:=by show vB4 (hexB (flatX v2.b))=v2;rw [hexB_flat];exact w2.symm
    have e3:vN4 (ancOf [v1,v2,v3,v4]).2.2.1=v3:=w3.symm
    have e4:vN4 (ancOf [v1,v2,v3,v4]).2.2.2=v4:=w4.symm
    exact ⟨by rw [e1];exact q1,by rw [e2];exact q2,by rw [e3];exact q3,by rw [e4];exact q4,by show flatX (hexB (flatX v2.b))=flatX v2.b;rw [hexB_flat]⟩
   refine ⟨hk0,ancOf [v1,v2,v3,v4],r,hga,?_,?_⟩
   ·generalize ancOf [v1,v2,v3,v4]=A at ha
    rw [e1,g2,← ha,vsA_enc,List.append_nil]
    rfl
   ·unfold ancSp noKey
    rw [hE,hag,if_pos rfl]
def bhL1 (x:List UInt8):List (List UInt8):=enterL 48 [x] (depthM x).2
def bhK1 (x:List UInt8):Nat:=(enterR 48 [x] (depthM x).2).k
def bh2 (x:List UInt8):=readF fSe (bhL1 x) (bhK1 x)
def bh3 (x:List UInt8):=readR aTx (bh2 x).1.1 (bh2 x).1.2
def ancE (l:List (List UInt8)) (k:Nat):List (List UInt8)×Nat:=endG ancSp (enterL 49 l k) (enterR 49 l k).k 8
def ancL (l:List (List UInt8)) (k:Nat):List N4:=(stG ancSp (enterL 49 l k) (enterR 49 l k).k (jG ancSp (enterL 49 l k) (enterR 49 l k).k 8)).2
def bh4 (x:List UInt8):=ancE (bh3 x).l (bh3 x).k
def bhK (x:List UInt8):Nat:=endK (leaveL (bh4 x).1 (bh4 x).2) (leaveK (bh4 x).1 (bh4 x).2)
def gotB (x:List UInt8):B3:=((bh2 x).2.n,(bh3 x).v.t,ancL (bh3 x).l (bh3 x).k)
def ordB (g:B3):B3:=(g.1,g.2.1,sortA g.2.2)
def finB (x:List UInt8) (k:Nat) (g:B3):B3×Nat:=if k=0 then (if rightB (ordB g)=true∧bunB (ordB g)=x then (ordB g,0) else (b00,4)) else (b00,k)
def readB (x:List UInt8):B3×Nat:=finB x (bhK x) (gotB x)
structure BdB (b:List UInt8):Prop where
 l1:0<(bhL1 b).length∧(bhL1 b).length≤2
 m1:muS (bhL1 b) (bhK1 b)≤100000
 l2:0<(bh2 b).1.1.length∧(bh2 b).1.1.length≤19
 m2:muS (bh2 b).1.1 (bh2 b).1.2≤100000
 l3:0<(bh3 b).l.length∧(bh3 b).l.length≤20
 m3:muS (bh3 b).l (bh3 b).k≤100000
 l4:0<(bh4 b).1.length∧(bh4 b).1.length≤40
 m4:muS (bh4 b).1 (bh4 b).2≤100000
 l5:0<(leaveL (bh4 b).1 (bh4 b).2).length∧(leaveL (bh4 b).1 (bh4 b).2).length≤40
 few:(gotB b).2.2.length≤8
attribute [local irreducible] endG stG jG enterL enterR leaveL leaveK readR readF depthM in
theorem bd_b {b:List UInt8} (hb:b.length≤90000):BdB b:=by
 have m0:muS [b] (depthM b).2≤100000:=by
  have:sumL [b]=b.length:=by simp [sumL]
  unfold muS
  split <;> omega
 have hl:=enterL_bd 48 [b] (depthM b).2 (by simp)
 have he:=enter_mu (t:=48) (l:=[b]) (k:=(depthM b).2) (by simp)
 have l1:0<(bhL1 b).length∧(bhL1 b).length≤2:=⟨hl.1,by have:=hl.2;simpa [bhL1] using this⟩
 have m1:muS (bhL1 b) (bhK1 b)≤100000:=Nat.le_trans he.2.1 m0
 obtain ⟨l2,m2⟩:=field_bd fSe ok_Se l1 m1
 obtain ⟨l3,m3⟩:=read_bd aTx l2 m2 (by decide)
 have q1:=enterL_bd 49 (bh3 b).l (bh3 b).k l3.1
 have q2:=(enter_mu (t:=49) (l:=(bh3 b).l) (k:=(bh3 b).k) l3.1).2.1
 obtain ⟨q3,q4⟩:=row_bd (l0:=enterL 49 (bh3 b).l (bh3 b).k) (k0:=(enterR 49 (bh3 b).l (bh3 b).k).k) (most:=8) anc_ok q1.1
 have l3':(bh3 b).l.length≤20:=l3.2
 have l4:0<(bh4 b).1.length∧(bh4 b).1.length≤40:=by
  unfold bh4 ancE
  exact ⟨q3.1,Nat.le_trans q3.2 (by omega)⟩
 have m4:muS (bh4 b).1 (bh4 b).2≤100000:=by
  unfold bh4 ancE
  exact Nat.le_trans q4 (Nat.le_trans q2 m3)
 have l5:=leaveL_bd (bh4 b).1 (bh4 b).2 l4.1
 have fw:(gotB b).2.2.length≤8:=by
  unfold gotB ancL
  exact row_few anc_ok q1.1 rfl
 exact ⟨l1,m1,l2,m2,l3,m3,l4,m4,⟨l5.1,Nat.le_trans l5.2 l4.2⟩,fw⟩
theorem endK_of {l:List (List UInt8)} {k:Nat} (h:endK l k=0):k=0:=by
 unfold endK at h
 split at h
 ·rename_i h0;exact absurd h h0
 ·omega
theorem hK_z {b:List UInt8} (h:bhK b=0):(bh4 b).2=0:=leaveK_of (endK_of h)
theorem ranc_row {l:List (List UInt8)} {k:Nat} (hl:0<l.length):endG rancSp (enterL 49 l k) (enterR 49 l k).k 8=ancE l k∧jG rancSp (enterL 49 l k) (enterR 49 l k).k 8=jG ancSp (enterL 49 l k) (enterR 49 l k).k 8∧((ancE l k).2=0→(stG rancSp (enterL 49 l k) (enterR 49 l k).k (jG rancSp (enterL 49 l k) (enterR 49 l k).k 8)).2=ancL l k):=by
 have hs:∀ l k,(ancSp l k).1=(rancSp l k).1:=fun l k=>rfl
 have he:=enterL_bd 49 l k hl
 refine ⟨(endG_same hs).symm,(jG_same hs).symm,fun h=>?_⟩
 rw [← jG_same hs]
 refine ((stG_eq hs (fun l k h=>?_) (fun l k h h0=>((ag_bd h0).2.2.1 h).1) (fun l k h0=>?_) he.1 _).2 (rowG_k (h:=h))).symm
 ·have h:(agE l k).2=0:=h
  show noKey (agE l k).2 _=_
  unfold noKey
  rw [if_pos h]
  rfl
 ·have:=(ag_bd (k:=k) h0).2.2.2
  show 0<(agE l k).1.length
  omega
end
section
open Go.RowKit Cal

end
section
open Go.RowKit Cal
abbrev St13:=Bool×N4
def stF (s:St13):Nat→CV:=fl [.c (.bool s.1),.c (.int .i64 s.2.1),strC s.2.2.1,.c (.int .i64 s.2.2.2.1),.c (.int .i64 s.2.2.2.2)]
def stsC (l:List St13):CV:=.rs 5 l.length fun i=>stF (l.getD i (false,a00))
structure OkB (c:B3):Prop where
 lo:-9223372036854775808≤c.1
 len:c.2.2.length≤20
 key:∀ i,(c.2.2.getD i a00).2.1.length≤100
theorem a_def {l:List N4} {i:Nat} (h:l.length≤i):l.getD i a00=a00:=by
 rw [List.getD_eq_getElem?_getD,List.getElem?_eq_none h]
 rfl
theorem srt_key {l:List N4} {n:Nat} (h:∀ i,(l.getD i a00).2.1.length≤n) (i:Nat):((sortA l).getD i a00).2.1.length≤n:=by
 by_cases hi:i<(sortA l).length
 ·rw [a_getD hi]
  have hm:=(sortA_perm l).subset (List.getElem_mem hi)
  obtain ⟨j,hj,e⟩:=List.getElem_of_mem hm
  have:=h j
  rw [a_getD hj,e] at this
  exact this
 ·rw [a_def (by omega)]
  exact Nat.zero_le _
section
variable {gs:List Nat} [OkG gs] [OkT gs]
end
end
section
open Go.RowKit Cal
theorem rdoF13_ac {gs:List Nat} (l:List (List UInt8)) (k:Nat) (a:AA) (hl:0<l.length∧l.length≤1000000) (hb:(nowL l).length≤1000000) (hk:a.kind=1∨a.kind=2∨a.kind=3∨a.kind=6∨a.kind=7∨a.kind=9):QD gs 53 l k [askC a] (valC (readR a l k).v) (readR a l k).l (readR a l k).k:=fun n =>
 rdo08_ac n l k a hl hb fun h1 h2 h3 b hb=>rsaidF_ac a b (by omega) hb
theorem rdoFd_ac {gs:List Nat} (f:Fd) (hf:f.call=3∨f.call=6∨f.call=9) {l:List (List UInt8)} {k:Nat} (hl:0<l.length∧l.length≤1000000) (hb:(nowL l).length≤1000000):QD gs 53 l k [askC (fdA f)] (valC (readR (fdA f) l k).v) (readF f l k).1.1 (readF f l k).1.2:=by
 have e:(readF f l k).1=((readR (fdA f) l k).l,(readR (fdA f) l k).k):=by unfold readF;rw [if_neg (by omega)]
 rw [e]
 exact rdoF13_ac l k (fdA f) hl hb (by show f.call=1∨f.call=2∨f.call=3∨f.call=6∨f.call=7∨f.call=9;omega)
theorem ranc_calls {gs:List Nat} (l:List (List UInt8)) (k:Nat) (hl:0<l.length∧l.length≤1000) (hm:muS l k≤100000) :
  ∃ L1 K1 v1 L2 K2 v2 L3 K3 key L4 K4 v4 L5 K5 v5 v6,QD gs 53 l k [askC aL] (valC v1) L1 K1∧QD gs 53 L1 K1 [askC (fdA fGe)] (valC v2) L2 K2∧QD gs 55 L2 K2 [] (strC key) L3 K3 ∧
   QD gs 53 L3 K3 [askC (fdA fMo)] (valC v4) L4 K4∧QD gs 53 L4 K4 [askC (fdA fMo)] (valC v5) L5 K5∧QD gs 53 L5 K5 [askC aE] (valC v6) (rancSp l k).1.1 (rancSp l k).1.2∧(rancSp l k).2=(v2.n,key,v4.n,v5.n)∧key.length≤200000:=by
 have n0:=now_le hm
 obtain ⟨f1,f2⟩:=read_enter aL rfl l k
 obtain ⟨l1,m1⟩:=read_bd aL hl hm (by decide)
 rw [f1,f2] at m1
 rw [f1] at l1
 obtain ⟨l2,m2⟩:=field_bd fGe ok_Ge l1 m1
 obtain ⟨l3,m3⟩:=field_bd fId ok_Id l2 m2
 obtain ⟨l4,m4⟩:=field_bd fMo ok_Mo l3 m3
 obtain ⟨l5,m5⟩:=field_bd fMo ok_Mo l4 m4
 have n1:=now_le m1
 have n2:=now_le m2
 have n3:=now_le m3
 have n4:=now_le m4
 have n5:=now_le m5
 have hE:=rdoF13_ac (gs:=gs) l k aL (by omega) (by omega) (.inl rfl)
 rw [f1,f2] at hE
 have hI:=rgid_w (gs:=gs) (L2:=(readF fGe (enterL aL.tag l k) (enterR aL.tag l k).k).1.1) (K2:=(readF fGe (enterL aL.tag l k) (enterR aL.tag l k).k).1.2) (idb_len n2) (rdoFd_ac (gs:=gs) fId (.inr (.inl rfl)) ⟨l2.1,Nat.le_trans l2.2 (by decide)⟩ (Nat.le_trans n2 (by decide)))
 have hL:∀ L5 K5,(0<L5.length∧L5.length≤1000000)→(nowL L5).length≤1000000→QD gs 53 L5 K5 [askC aE] (valC (readR aE L5 K5).v) (leaveL L5 K5) (leaveK L5 K5):=fun L5 K5 h1 h2=>by
  have hL:=rdoF13_ac (gs:=gs) L5 K5 aE h1 h2 (.inr (.inl rfl))
  obtain ⟨p1,p2⟩:=read_leave aE rfl L5 K5
  rw [p1,p2] at hL
  exact hL
 exact ⟨_,_,_,_,_,_,_,_,_,_,_,_,_,_,_,_,hE,rdoFd_ac fGe (.inl rfl) ⟨l1.1,Nat.le_trans l1.2 (by decide)⟩ (Nat.le_trans n1 (by decide)),hI,rdoFd_ac fMo (.inr (.inr rfl)) ⟨l3.1,Nat.le_trans l3.2 (by decide)⟩ (Nat.le_trans n3 (by decide)),rdoFd_ac fMo (.inr (.inr rfl)) ⟨l4.1,Nat.le_trans l4.2 (by decide)⟩ (Nat.le_trans n4 (by decide)),hL _ _ ⟨l5.1,Nat.le_trans l5.2 (by decide)⟩ (Nat.le_trans n5 (by decide)),rfl,by rw [flatX_len];exact Nat.le_trans (Nat.mul_le_mul_left 2 (idb_len n2)) (by decide)⟩
set_option maxHeartbeats 4000000 in
theorem rread13_w {gs:List Nat} (b:List UInt8) {K0 K1 K2 K3 k0 K6 KE:Nat} {L1 L2 L3 l0 L6:List (List UInt8)} {v1 v2 v3 v4 v6:VV} (hl0:0<l0.length∧l0.length≤100) (hm0:muS l0 k0≤100000)
  (hR:AC gs Tryz.prog 52 [] [bsC b] (fun r H'=>∃ n,r=.op 0 (some n) 0∧H'=[rqE n [b] K0])) (hE:QD gs 53 [b] K0 [askC aL] (valC v1) L1 K1) (hV:QD gs 53 L1 K1 [askC (fdA fSe)] (valC v2) L2 K2) (hS:QD gs 53 L2 K2 [askC aTx] (valC v3) L3 K3) (hT:QD gs 53 L3 K3 [askC ⟨1,49,0,0⟩] (valC v4) l0 k0)
  (hL:QD gs 53 (endG rancSp l0 k0 8).1 (endG rancSp l0 k0 8).2 [askC aE] (valC v6) L6 K6) (hN:QD gs 56 L6 K6 [] (.c (.int .i64 (KE:Nat))) L6 K6) (hkey:∀ i,(((stG rancSp l0 k0 (jG rancSp l0 k0 8)).2).getD i a00).2.1.length≤1000000) :
  ACp gs Tryz.prog 23 [bsC b] (.tup 2 (fl [bnC (finB b KE (v2.n,v3.t,(stG rancSp l0 k0 (jG rancSp l0 k0 8)).2)).1,.c (.int .i64 ((finB b KE (v2.n,v3.t,(stG rancSp l0 k0 (jG rancSp l0 k0 8)).2)).2:Nat))])):=by
 have hso:=fun j=>stG_out rancSp l0 k0 j
 have hbd:=stG_bd (sp:=rancSp) (k0:=k0) (most:=8) ranc_ok hl0.1
 have hfew:(stG rancSp l0 k0 (jG rancSp l0 k0 8)).2.length≤8:=row_few (l0:=l0) (k0:=k0) (most:=8) ranc_ok hl0.1 rfl
 refine ac_oF 96 Tryz.func23 fun al w0 F0 St0=>?_;refine jcr ?_
 refine jqe (jeal (n:=3) zr30 rfl fun p1=>?_)
 refine jU 51 ?_;refine jE (blk_ent 0 (m:=3) (F:=bnF b00) rfl (by decide) (fun _=>rfl) (fun j hj=>by rcases j with _|_|_|j <;> first|exact cZ|exact CEnt.nilS' rfl|omega)) ?_;refine jU 16 ?_
 refine jqe (jecS hR ?_)
 rintro _ _ ⟨n,rfl,rfl⟩
 refine jU 51 ?_;refine jE (weaken 4 (.op 1 (some n) 0) cP) ?_;refine jcr ?_;refine jq (rd_build (n:=3) rfl zr30 pl30 rfl rfl) ?_
 refine jqe (jeal (n:=3) zr30 rfl fun p2=>?_)
 refine jqm (jmstF 3 (fl [.c (.int .i64 0),strC [],.c (.slice none 0 0)]) ?_ ?_)
 ·exact jal
 refine jU 165 ?_;refine jq (rd_build (n:=4) rfl zr95 pl95 rfl rfl) ?_;refine jF2 165 1 (hE n) ?_;refine jq (rd_build (n:=4) rfl zr95 pl95 rfl rfl) ?_
 refine jqm (jmcE 1 (hV n) ?_)
 refine jq (jrf 1 1) ?_;refine jU 90 ?_
 refine jqm (jmstF 1 (fl [.c (.int .i64 v2.n),strC [],.c (.slice none 0 0)]) ?_ ?_)
 ·exact jal
 refine jU 165 ?_;refine jq (rd_build (n:=4) rfl zr95 pl95 rfl rfl) ?_
 refine jqm (jmcE 1 (hS n) ?_)
 refine jq (jrf 4 1) ?_;refine jU 100 ?_
 refine jqm (jmstF 1 (fl [.c (.int .i64 v2.n),strC v3.t,.c (.slice none 0 0)]) ?_ ?_)
 ·exact jal
 refine jU 165 ?_;refine jq (rd_build (n:=4) rfl zr95 pl95 rfl rfl) ?_;refine jF2 2075 1 (hT n) ?_;refine jE (nil_push (asF [])) ?_
 refine jlp (α:=Nat×Option Nat) [6,6,27,66] (fun _=>[]) (fun (j,g)=>[(p1,.blk 3 (bnF b00)),rqE n (stG rancSp l0 k0 j).1.1 (stG rancSp l0 k0 j).1.2,(p2,.blk 3 (fl [.c (.int .i64 v2.n),strC v3.t,.os 3 g 0 (stG rancSp l0 k0 j).2.length 4])),ownA g (stG rancSp l0 k0 j).2]) (fun p=>∀ i,i<p.1→goB rancSp l0 k0 8 i=true) (fun p=>muS (stG rancSp l0 k0 p.1).1.1 (stG rancSp l0 k0 p.1).1.2) (0,none) (h0:=fun i hi=>absurd hi (Nat.not_lt_zero i)) (hH:=.same (.same (.blk rfl (fun j hj=>by rcases j with _|_|_|j <;> first|exact cZ|exact CEnt.nilOS) (.same .nil)))) (hr:=?_)
 rintro ⟨j,g⟩ (hj:∀ i,i<j→goB rancSp l0 k0 8 i=true)
 obtain ⟨hmj,hlk,hlo,hhi⟩:=hbd j hj
 have hjl:0<(stG rancSp l0 k0 j).1.1.length∧(stG rancSp l0 k0 j).1.1.length≤1000:=by omega
 have hjm:muS (stG rancSp l0 k0 j).1.1 (stG rancSp l0 k0 j).1.2≤100000:=by omega
 have hjn:=now_le hjm
 have hjo:=hso j
 refine jU 167 ?_;refine jF2 5 1 (rmore08_ac n (stG rancSp l0 k0 j).1.1 (stG rancSp l0 k0 j).1.2 (by omega)) ?_;refine jF3 5235010006720810 84000200020006000 (fun h87=>?_) fun h87=>?_
 rotate_left
 ·first
   |(have hmt1:moreM (stG rancSp l0 k0 j).1.1 (stG rancSp l0 k0 j).1.2=true:=by simpa using h87
     obtain ⟨hs1,hs2⟩:=end_long (most:=8) ranc_ok hl0.1 hj hmt1 (by omega)
     have hDo:=rdoF13_ac (gs:=gs) (stG rancSp l0 k0 j).1.1 3 aE (by omega) (by omega) (.inr (.inl rfl)) n)
   |(have hmf1:moreM (stG rancSp l0 k0 j).1.1 (stG rancSp l0 k0 j).1.2=false:=by simpa using h87
     obtain ⟨hs1,hs2⟩:=end_all (most:=8) ranc_ok hl0.1 hj hmf1
     have hDo:=rdoF13_ac (gs:=gs) (stG rancSp l0 k0 j).1.1 (stG rancSp l0 k0 j).1.2 aE (by omega) (by omega) (.inr (.inl rfl)) n)
  have hE1:(endG rancSp l0 k0 8).1=_:=congrArg Prod.fst hs2
  have hE2:(endG rancSp l0 k0 8).2=_:=congrArg Prod.snd hs2
  dsimp only at hE1 hE2
  rw [← hE1,← hE2] at hDo
  rw [hs1] at hkey hfew ⊢
  refine jU 16 ?_;refine jq (rd_build (n:=4) rfl zr95 pl95 rfl rfl) ?_;refine jF2 165 1 hDo ?_;refine jq (rd_build (n:=4) rfl zr95 pl95 rfl rfl) ?_;refine jF2 1675 1 (hL n) ?_;refine jF2 521651 1 (hN n) ?_;refine jF3 0 810 (fun h103=>?_) fun h103=>?_
  ·refine jcr ?_;refine jq (rd_build (n:=3) rfl zr30 pl30 rfl rfl) ?_;refine jU 1 ?_
   refine jqm (jmstF 3 (bnF b00) ?_ ?_)
   ·exact jal
   refine jU 51 ?_
   refine jR (jtr (jrt (hres:=res_2 rfl (javA 3) javt) (hv:=?_)))
   rw [show finB b KE (v2.n,v3.t,(stG rancSp l0 k0 j).2)=(b00,KE) by unfold finB;rw [if_neg (by omega)]]
   exact cT jag cZ
  have hz:KE=0:=by omega
  have hks:=srt_key hkey
  refine jU 5010006 ?_
  refine jqm (jmcH 3 (rsorted13_ac g (stG rancSp l0 k0 j).2 (by omega)) ?_)
  rintro _ _ ⟨rfl,x,rfl⟩;refine ⟨_,_,rfl,cZ,?_⟩
  refine jU 1000 ?_
  refine jqm (jmstF 1 (bnF (ordB (v2.n,v3.t,(stG rancSp l0 k0 j).2))) ?_ ?_)
  ·exact jal
  refine jU 775 ?_;refine jE (freeze 2 rfl) ?_;refine jE (thawP 5 (m:=3) rfl rfl (by decide)) ?_;refine jcd (oT [0,3,4,6,8,14,16,11,12,18,20] .done) ?_;refine jyq (jrdrA 3) ?_
  refine jye (jecP (rbright_ac (ordB (v2.n,v3.t,(stG rancSp l0 k0 j).2)) hks) ?_)
  refine jU 70100000 ?_;refine jysp 86 (fun g107=>?_) fun g107=>?_
  ·refine jU 600600600 ?_;refine jys1 ?_;refine jU 690008803000000600600 ?_;refine jq (rd_build (n:=3) rfl zr30 pl30 rfl rfl) ?_
   refine jqm (jmstF 3 (bnF b00) ?_ ?_)
   ·exact jal
   refine jU 51 ?_
   refine jR (jtr (jrt (hres:=res_2 rfl (javA 3) javt) (hv:=?_)))
   rw [show finB b KE (v2.n,v3.t,(stG rancSp l0 k0 j).2)=(b00,4) by unfold finB;rw [if_pos hz,if_neg (by rintro ⟨h1,h2⟩;simp_all)]]
   exact cT jag cZ
  refine jyq (jrdrA 3) ?_;refine jU 3000000070 ?_
  refine jye (jecP (rbytes13_ac (b:=ordB (v2.n,v3.t,(stG rancSp l0 k0 j).2)) (by simp_all)) ?_)
  refine jyq jrbs ?_;refine jyq jrcs ?_;refine jU 880300000 ?_;refine jF3 0 6810 (fun h107=>?_) fun h107=>?_
  ·refine jcr ?_;refine jq (rd_build (n:=3) rfl zr30 pl30 rfl rfl) ?_
   refine jqm (jmstF 3 (bnF b00) ?_ ?_)
   ·exact jal
   refine jU 51 ?_
   refine jR (jtr (jrt (hres:=res_2 rfl (javA 3) javt) (hv:=?_)))
   rw [show finB b KE (v2.n,v3.t,(stG rancSp l0 k0 j).2)=(b00,4) by unfold finB;rw [if_pos hz,if_neg (by rintro ⟨h1,h2⟩;simp_all)]]
   exact cT jag cZ
  refine jq (jrdrA 3) ?_
  refine jqm (jmstF 3 (bnF (ordB (v2.n,v3.t,(stG rancSp l0 k0 j).2))) ?_ ?_)
  ·exact jal
  refine jU 51 ?_
  refine jR (jrt (hres:=res_2 rfl (javA 3) javt) (hv:=?_))
  rw [show finB b KE (v2.n,v3.t,(stG rancSp l0 k0 j).2)=(ordB (v2.n,v3.t,(stG rancSp l0 k0 j).2),0) by unfold finB;rw [if_pos hz,if_pos (by simp_all)]]
  exact cT jag cZ
 refine jF3 1004016 810 (fun h88=>?_) fun h88=>?_
 rotate_left
 ·have hmt0:moreM (stG rancSp l0 k0 j).1.1 (stG rancSp l0 k0 j).1.2=true:=by simpa using h87
  have hgo:goB rancSp l0 k0 8 j=true:=by unfold goB;rw [hmt0,Bool.true_and,decide_eq_true_eq];omega
  obtain ⟨M1,J1,w1',M2,J2,w2',M3,J3,key,M4,J4,w4',M5,J5,w5',w6',c1,c2,c3,c4,c5,c6,hv,hkl⟩:=ranc_calls (gs:=gs) (stG rancSp l0 k0 j).1.1 (stG rancSp l0 k0 j).1.2 hjl hjm
  refine jcr ?_;refine jq (rd_build (n:=4) rfl zr42 pl42 rfl rfl) ?_
  refine jqe (jeal (n:=4) zr42 rfl fun p8=>?_)
  refine jqm (jmstF 4 (anF a00) ?_ ?_)
  ·exact jal
  refine jU 165 ?_;refine jq (rd_build (n:=4) rfl zr95 pl95 rfl rfl) ?_;refine jF2 165 1 (c1 n) ?_;refine jq (rd_build (n:=4) rfl zr95 pl95 rfl rfl) ?_
  refine jqm (jmcE 1 (c2 n) ?_)
  refine jq (jrf 1 1) ?_;refine jU 90 ?_
  refine jqm (jmstF 1 (anF (w2'.n,[],0,0)) ?_ ?_)
  ·exact jal
  refine jU 165 ?_;refine jF2 100 1 (c3 n) ?_
  refine jqm (jmstF 1 (anF (w2'.n,key,0,0)) ?_ ?_)
  ·exact jal
  refine jU 165 ?_;refine jq (rd_build (n:=4) rfl zr95 pl95 rfl rfl) ?_
  refine jqm (jmcE 1 (c4 n) ?_)
  refine jq (jrf 1 1) ?_;refine jU 1000 ?_
  refine jqm (jmstF 1 (anF (w2'.n,key,w4'.n,0)) ?_ ?_)
  ·exact jal
  refine jU 165 ?_;refine jq (rd_build (n:=4) rfl zr95 pl95 rfl rfl) ?_
  refine jqm (jmcE 1 (c5 n) ?_)
  refine jq (jrf 1 1) ?_;refine jU 5000000 ?_
  refine jqm (jmstF 1 (anF (w2'.n,key,w4'.n,w5'.n)) ?_ ?_)
  ·exact jal
  refine jU 165 ?_;refine jq (rd_build (n:=4) rfl zr95 pl95 rfl rfl) ?_;refine jF2 5010002005 1 (c6 n) ?_;refine jqo (jrdoA 4) ?_
  refine jqe (jebl 4 4 zr42 fun p15=>?_)
  refine jqm (jac 40 (rowC_row 4 anF a00) (l:=(stG rancSp l0 k0 j).2) (l2:=[(w2'.n,key,w4'.n,w5'.n)]) fun p16=>?_)
  refine jU 1000 ?_
  refine jqm (jmstF 1 (fl [.c (.int .i64 v2.n),strC v3.t,.os 3 p16 0 ((stG rancSp l0 k0 j).2++[(w2'.n,key,w4'.n,w5'.n)]).length 4]) ?_ ?_)
  ·exact jal
  refine jU 84005 ?_
  refine jlend (j+1,p16) (h1:=fun i hi=>if h:i<j then hj i h else (by obtain rfl:i=j:=(by have hi:i<j+1:=hi;omega);exact hgo)) (h2:=ranc_ok.mu _ _ (by omega) hmt0) (h7:=?_)
  ·show HEnt _ [(p1,.blk 3 (bnF b00)),rqE n (rancSp (stG rancSp l0 k0 j).1.1 (stG rancSp l0 k0 j).1.2).1.1 (rancSp (stG rancSp l0 k0 j).1.1 (stG rancSp l0 k0 j).1.2).1.2,(p2,.blk 3 (fl [.c (.int .i64 v2.n),strC v3.t,.os 3 p16 0 ((stG rancSp l0 k0 j).2++[(rancSp (stG rancSp l0 k0 j).1.1 (stG rancSp l0 k0 j).1.2).2]).length 4])),ownA p16 ((stG rancSp l0 k0 j).2++[(rancSp (stG rancSp l0 k0 j).1.1 (stG rancSp l0 k0 j).1.2).2])]
   rw [hv]
   exact HEnt.refl _
 refine jqm (jmstF 1 (rqF (stG rancSp l0 k0 j).1.1 3) ?_ ?_)
 ·exact jal
 refine jU 84000200080000200060005 ?_
 first
  |(have hmt1:moreM (stG rancSp l0 k0 j).1.1 (stG rancSp l0 k0 j).1.2=true:=by simpa using h87
    obtain ⟨hs1,hs2⟩:=end_long (most:=8) ranc_ok hl0.1 hj hmt1 (by omega)
    have hDo:=rdoF13_ac (gs:=gs) (stG rancSp l0 k0 j).1.1 3 aE (by omega) (by omega) (.inr (.inl rfl)) n)
  |(have hmf1:moreM (stG rancSp l0 k0 j).1.1 (stG rancSp l0 k0 j).1.2=false:=by simpa using h87
    obtain ⟨hs1,hs2⟩:=end_all (most:=8) ranc_ok hl0.1 hj hmf1
    have hDo:=rdoF13_ac (gs:=gs) (stG rancSp l0 k0 j).1.1 (stG rancSp l0 k0 j).1.2 aE (by omega) (by omega) (.inr (.inl rfl)) n)
 have hE1:(endG rancSp l0 k0 8).1=_:=congrArg Prod.fst hs2
 have hE2:(endG rancSp l0 k0 8).2=_:=congrArg Prod.snd hs2
 dsimp only at hE1 hE2
 rw [← hE1,← hE2] at hDo
 rw [hs1] at hkey hfew ⊢
 refine jU 16 ?_;refine jq (rd_build (n:=4) rfl zr95 pl95 rfl rfl) ?_;refine jF2 165 1 hDo ?_;refine jq (rd_build (n:=4) rfl zr95 pl95 rfl rfl) ?_;refine jF2 1675 1 (hL n) ?_;refine jF2 521651 1 (hN n) ?_;refine jF3 0 810 (fun h103=>?_) fun h103=>?_
 ·refine jcr ?_;refine jq (rd_build (n:=3) rfl zr30 pl30 rfl rfl) ?_;refine jU 1 ?_
  refine jqm (jmstF 3 (bnF b00) ?_ ?_)
  ·exact jal
  refine jU 51 ?_
  refine jR (jtr (jrt (hres:=res_2 rfl (javA 3) javt) (hv:=?_)))
  rw [show finB b KE (v2.n,v3.t,(stG rancSp l0 k0 j).2)=(b00,KE) by unfold finB;rw [if_neg (by omega)]]
  exact cT jag cZ
 have hz:KE=0:=by omega
 have hks:=srt_key hkey
 refine jU 5010006 ?_
 refine jqm (jmcH 3 (rsorted13_ac g (stG rancSp l0 k0 j).2 (by omega)) ?_)
 rintro _ _ ⟨rfl,x,rfl⟩;refine ⟨_,_,rfl,cZ,?_⟩
 refine jU 1000 ?_
 refine jqm (jmstF 1 (bnF (ordB (v2.n,v3.t,(stG rancSp l0 k0 j).2))) ?_ ?_)
 ·exact jal
 refine jU 775 ?_;refine jE (freeze 2 rfl) ?_;refine jE (thawP 5 (m:=3) rfl rfl (by decide)) ?_;refine jcd (oT [0,3,4,6,8,14,16,11,12,18,20] .done) ?_;refine jyq (jrdrA 3) ?_
 refine jye (jecP (rbright_ac (ordB (v2.n,v3.t,(stG rancSp l0 k0 j).2)) hks) ?_)
 refine jU 70100000 ?_;refine jysp 86 (fun g107=>?_) fun g107=>?_
 ·refine jU 600600600 ?_;refine jys1 ?_;refine jU 690008803000000600600 ?_;refine jq (rd_build (n:=3) rfl zr30 pl30 rfl rfl) ?_
  refine jqm (jmstF 3 (bnF b00) ?_ ?_)
  ·exact jal
  refine jU 51 ?_
  refine jR (jtr (jrt (hres:=res_2 rfl (javA 3) javt) (hv:=?_)))
  rw [show finB b KE (v2.n,v3.t,(stG rancSp l0 k0 j).2)=(b00,4) by unfold finB;rw [if_pos hz,if_neg (by rintro ⟨h1,h2⟩;simp_all)]]
  exact cT jag cZ
 refine jyq (jrdrA 3) ?_;refine jU 3000000070 ?_
 refine jye (jecP (rbytes13_ac (b:=ordB (v2.n,v3.t,(stG rancSp l0 k0 j).2)) (by simp_all)) ?_)
 refine jyq jrbs ?_;refine jyq jrcs ?_;refine jU 880300000 ?_;refine jF3 0 6810 (fun h107=>?_) fun h107=>?_
 ·refine jcr ?_;refine jq (rd_build (n:=3) rfl zr30 pl30 rfl rfl) ?_
  refine jqm (jmstF 3 (bnF b00) ?_ ?_)
  ·exact jal
  refine jU 51 ?_
  refine jR (jtr (jrt (hres:=res_2 rfl (javA 3) javt) (hv:=?_)))
  rw [show finB b KE (v2.n,v3.t,(stG rancSp l0 k0 j).2)=(b00,4) by unfold finB;rw [if_pos hz,if_neg (by rintro ⟨h1,h2⟩;simp_all)]]
  exact cT jag cZ
 refine jq (jrdrA 3) ?_
 refine jqm (jmstF 3 (bnF (ordB (v2.n,v3.t,(stG rancSp l0 k0 j).2))) ?_ ?_)
 ·exact jal
 refine jU 51 ?_
 refine jR (jrt (hres:=res_2 rfl (javA 3) javt) (hv:=?_))
 rw [show finB b KE (v2.n,v3.t,(stG rancSp l0 k0 j).2)=(ordB (v2.n,v3.t,(stG rancSp l0 k0 j).2),0) by unfold finB;rw [if_pos hz,if_pos (by simp_all)]]
 exact cT jag cZ
end
section
open Go.RowKit Cal
section
variable {gs:List Nat} [OkG gs] [OkT gs]
set_option maxHeartbeats 2000000 in
theorem get13_w {gs:List Nat} [OkG gs] (n:Nat) {l L1 L2 L3 L4 L5 L6:List (List UInt8)} {k K1 K2 K3 K4 K5 K6:Nat} {is:Bool} {ge fr til:Int} {id:List UInt8} (hid:K6=0→id.length=16)
  (hE:RD gs 44 l k [.c (.int .i64 48)] (.c (.bool is)) L1 K1) (hI:RD gs 45 L1 K1 [.c (.int .i64 1),.c (.int .i64 1048576)] (.c (.int .i64 ge)) L2 K2)
  (hO:RD gs 88 L2 K2 [.c (.int .i64 16),.c (.int .i64 16)] (bsC id) L3 K3) (hM:RD gs 89 L3 K3 [] (.c (.int .i64 fr)) L4 K4) (hT:RD gs 89 L4 K4 [] (.c (.int .i64 til)) L5 K5) (hL:RD gs 49 L5 K5 [] (.c (.tuple #[])) L6 K6) :
  AC gs Tryz.prog 48 [rdO n l k] [.op 0 (some n) 0] (fun r H'=>r=anC (noKey K6 (ge,flatX id,fr,til))∧H'=[rdO n L6 K6]):=by
 have hX:=err08_ac (gs:=gs) n L6 K6
 have hm:=mtext_ac (gs:=gs) id
 have hf:=fail08_ac (gs:=gs) n L6 K6 0
 rw [show (if K6=0 then 0 else K6)=K6 by split <;> omega] at hf
 refine ac_oF 36 Tryz.func48 fun al w0 F0 St0=>?_;refine jcr ?_
 refine jqe (jeal (n:=4) zr33 rfl fun p1=>?_)
 refine jU 165 ?_;refine jF2 165 0 (hE n) ?_
 refine jqm (jmcE 0 (hI n) ?_)
 refine jq (rd_build (n:=4) rfl zr33 pl33 rfl rfl) ?_
 refine jqe (jeal (n:=4) zr33 rfl fun p4=>?_)
 refine jqm (jmstF 4 (anF (ge,[],0,0)) ?_ ?_)
 ·exact jal
 refine jU 165 ?_;refine jF2 1651 0 (hO n) ?_;refine jF2 1 0 (hM n) ?_;refine jF2 1000 0 (hT n) ?_
 refine jqm (jmstF 1 (anF (ge,[],fr,0)) ?_ ?_)
 ·exact jal
 refine jU 5000000 ?_
 refine jqm (jmstF 1 (anF (ge,[],fr,til)) ?_ ?_)
 ·exact jal
 refine jU 165 ?_;refine jF2 1675 0 (hL n) ?_;refine jF2 5500000 0 hX ?_;refine jF3 0 810 (fun h69=>?_) fun h69=>?_
 rotate_left
 ·first
   |(have hn2:noKey K6 (ge,flatX id,fr,til)=(ge,flatX id,fr,til):=hn)
   |(have hn2:noKey K6 (ge,flatX id,fr,til)=(ge,[],fr,til):=by unfold noKey;rw [if_neg (by omega)])
  rw [hn2]
  refine jcr ?_;refine jqo (jrdoA 4) ?_;refine jF7 70005 4 ?_
  exact jnh (hres:=res_1 rfl (javA 4))
 have hz:K6=0:=by omega
 have h16:=hid hz
 have hm:=mtext_ac (gs:=gs) id
 rw [if_pos h16,if_pos h16] at hm
 have hn:noKey K6 (ge,flatX id,fr,til)=(ge,flatX id,fr,til):=by unfold noKey;rw [if_pos hz]
 refine jU 16 ?_;refine jF1 1165119009001 hm ?_;refine jF2 10012005 0 hf ?_
 refine jqm (jmstF 1 (anF (ge,flatX id,fr,til)) ?_ ?_)
 ·exact jal
 refine jU 85 ?_
 first
  |(have hn2:noKey K6 (ge,flatX id,fr,til)=(ge,flatX id,fr,til):=hn)
  |(have hn2:noKey K6 (ge,flatX id,fr,til)=(ge,[],fr,til):=by unfold noKey;rw [if_neg (by first|omega|simp_all)])
 rw [hn2]
 refine jcr ?_;refine jqo (jrdoA 4) ?_;refine jF7 70005 4 ?_
 exact jnh (hres:=res_1 rfl (javA 4))
theorem got_id {l:List (List UInt8)} {k:Nat} (hl:0<l.length) (h:(agE l k).2=0):(readF fId (readF fGe (enterL 48 l k) (enterR 48 l k).k).1.1 (readF fGe (enterL 48 l k) (enterR 48 l k).k).1.2).2.b.length=16:=by
 obtain ⟨ls,x,rfl⟩:∃ ls x,l=ls++[x]:=⟨l.dropLast,l.getLast (List.length_pos_iff.1 hl),(List.dropLast_concat_getLast _).symm⟩
 obtain ⟨_,a,r,h1,h2,h3⟩:=anc_fb.back ls x k h
 have h4:noKey (agE (ls++[x]) k).2 (ancOf (ag (ls++[x]) k).2)=a:=congrArg Prod.snd h3
 unfold noKey at h4
 rw [if_pos h] at h4
 have h5:flatX (readF fId (readF fGe (enterL 48 (ls++[x]) k) (enterR 48 (ls++[x]) k).k).1.1 (readF fGe (enterL 48 (ls++[x]) k) (enterR 48 (ls++[x]) k).k).1.2).2.b=a.2.1:=congrArg (fun z:N4=>z.2.1) h4
 have h6:(hexB a.2.1).length=16:=by
  rcases h1.ky with h|h|h|h|h
  ·exact absurd h.1 (by decide)
  ·exact absurd h.1 (by decide)
  ·have h7:((hexB a.2.1).length:Int)≤16:=h.2.2.2
   have h8:(16:Int)≤((hexB a.2.1).length:Nat):=h.2.2.1
   omega
  ·exact absurd h.1 (by decide)
  ·exact absurd h.1 (by decide)
 rw [← h5,hexB_flat] at h6
 exact h6
attribute [local irreducible] readR readF enterL enterR leaveL leaveK in
theorem get13_ac {gs:List Nat} [OkG gs] (n:Nat) (l:List (List UInt8)) (k:Nat) (hl:0<l.length∧l.length≤200000) (hm:muS l k≤100001):AC gs Tryz.prog 48 [rdO n l k] [.op 0 (some n) 0] (fun r H'=>r=anC (ancSp l k).2∧H'=[rdO n (ancSp l k).1.1 (ancSp l k).1.2]):=by
 have q1:=enterL_bd 48 l k hl.1
 have m1:=Nat.le_trans (enter_mu (t:=48) (l:=l) (k:=k) hl.1).2.1 hm
 have l1:0<(enterL 48 l k).length∧(enterL 48 l k).length≤200001:=⟨q1.1,by omega⟩
 obtain ⟨l2,m2⟩:=field_bd fGe ok_Ge l1 m1
 obtain ⟨l3,m3⟩:=field_bd fId ok_Id l2 m2
 obtain ⟨l4,m4⟩:=field_bd fMo ok_Mo l3 m3
 obtain ⟨l5,m5⟩:=field_bd fMo ok_Mo l4 m4
 have n0:=now_le hm
 have n1:=now_le m1
 have n2:=now_le m2
 have n3:=now_le m3
 have n4:=now_le m4
 exact get13_w n (got_id hl.1) (fun n=>enter_ac (gs:=gs) n l k 48 ⟨hl.1,by omega⟩ (by omega)) (fun n=>intF_ac (gs:=gs) n _ _ 1 1048576 ⟨l1.1,Nat.le_trans l1.2 (by omega)⟩ (Nat.le_trans n1 (by omega))) (fun n=>octF_ac (gs:=gs) n _ _ 16 16 ⟨l2.1,Nat.le_trans l2.2 (by omega)⟩ (Nat.le_trans n2 (by omega))) (fun n=>momF_ac (gs:=gs) n _ _ 0 0 ⟨l3.1,Nat.le_trans l3.2 (by omega)⟩ (Nat.le_trans n3 (by omega))) (fun n=>momF_ac (gs:=gs) n _ _ 0 0 ⟨l4.1,Nat.le_trans l4.2 (by omega)⟩ (Nat.le_trans n4 (by omega))) (fun n=>leave_ac (gs:=gs) n _ _ ⟨l5.1,Nat.le_trans l5.2 (by omega)⟩)
set_option maxHeartbeats 2000000 in
theorem rowON_ac {gs:List Nat} [Ok9 gs] {f:FuncId} (hc:calleeB Tryz.prog f=true) (n:Nat) (l:List (List UInt8)) (k:Nat) (tag most:Int) {sp:StepR N4} (ok:StepOk sp) (hl:0<l.length∧l.length≤100000) (hb:sumL l≤100000) (hf:∀ l k,0<l.length∧l.length≤200000→sumL l≤100000→moreM l k=true→AC gs Tryz.prog f [rdO n l k] [.op 0 (some n) 0] (fun r H'=>r=anC (sp l k).2∧H'=[rdO n (sp l k).1.1 (sp l k).1.2])) :
  AC gs Tryz.prog 47 [rdO n l k] [.op 0 (some n) 0,.c (.int .i64 tag),.c (.int .i64 most),.fn f 0 fun _=>.top]
   (fun r H'=>∃ g,r=.os 1 g 0 (if (endG sp (enterL tag l k) (enterR tag l k).k most).2=0 then (stG sp (enterL tag l k) (enterR tag l k).k (jG sp (enterL tag l k) (enterR tag l k).k most)).2 else []).length 4∧H'=[bagE [rdO n (endG sp (enterL tag l k) (enterR tag l k).k most).1 (endG sp (enterL tag l k) (enterR tag l k).k most).2,ownA g (if (endG sp (enterL tag l k) (enterR tag l k).k most).2=0 then (stG sp (enterL tag l k) (enterR tag l k).k (jG sp (enterL tag l k) (enterR tag l k).k most)).2 else [])]]):=by
 have he:=enter_mu (t:=tag) (l:=l) (k:=k) hl.1
 have hle:l.length≤(enterL tag l k).length∧(enterL tag l k).length≤l.length+1:=by
  by_cases h:(enterR tag l k).k=0
  ·have:=he.2.2.2.1 h;omega
  ·have:=he.2.2.2.2.1 h;omega
 have hsm:muS (enterL tag l k) (enterR tag l k).k≤100001:=by
  have h0:muS l k≤100001:=by unfold muS;split <;> omega
  exact Nat.le_trans he.2.1 h0
 have hse:sumL (enterL tag l k)≤100000:=by
  have h1:=he.2.1
  have h2:=he.2.2.1
  have h3:=he.1
  by_cases hk:k=0
  ·have h4:=h2 hk
   unfold muS at h4
   rw [if_pos hk] at h4
   split at h4 <;> omega
  ·rw [(h3 hk).1];exact hb
 have hnl:=now_sum l
 generalize hl0:enterL tag l k=l0 at *
 generalize hk0:(enterR tag l k).k=k0 at *
 have hso:=fun j=>stG_out sp l0 k0 j
 have hbd:=stG_bd (sp:=sp) (k0:=k0) (most:=most) ok (show 0<l0.length by omega)
 refine jF5 116516516 36 Tryz.func47 fun al w0 F0 St0=>?_;refine jF2 2075 0 (enter_ac n l k tag (by omega) (by omega)) ?_
 rw [hl0,hk0]
 refine jE (own_nil 9 4 (rowF 4 anF a00 []) rfl) ?_
 refine jlp (α:=Nat×Option Nat) [9,9,13,27] (fun (j,g)=>[(9,.os 1 g 0 (stG sp l0 k0 j).2.length 4)]) (fun (j,g)=>[rdO n (stG sp l0 k0 j).1.1 (stG sp l0 k0 j).1.2,(g,.blk ((stG sp l0 k0 j).2.length * 4) (rowF 4 anF a00 (stG sp l0 k0 j).2))]) (fun p=>∀ i,i<p.1→goB sp l0 k0 most i=true) (fun p=>muS (stG sp l0 k0 p.1).1.1 (stG sp l0 k0 p.1).1.2) (0,none) (h0:=fun i hi=>absurd hi (Nat.not_lt_zero i)) (hr:=?_)
 rintro ⟨j,g⟩ (hj:∀ i,i<j→goB sp l0 k0 most i=true)
 obtain ⟨hmj,hlk,hlo,hhi⟩:=hbd j hj
 have hjl:0<(stG sp l0 k0 j).1.1.length∧(stG sp l0 k0 j).1.1.length≤200000:=by omega
 have hjo:=hso j
 have hjm:j≤100001:=by omega
 refine jU 167 ?_;refine jF2 5 0 (more_ac n (stG sp l0 k0 j).1.1 (stG sp l0 k0 j).1.2 (by omega)) ?_;refine jF3 521316720810 84000200020006000 (fun h315=>?_) fun h315=>?_
 rotate_left
 ·first
   |(have hmt:moreM (stG sp l0 k0 j).1.1 (stG sp l0 k0 j).1.2=true:=by simpa using h315
     have hkz:=(more_pos hmt).1
     rw [if_pos hkz]
     have hstop:jG sp l0 k0 most=j:=jG_one ok (by omega) hj (by unfold goB;rw [hmt,Bool.true_and,decide_eq_false_iff_not];omega)
     have hE:rdO n (leaveL (stG sp l0 k0 j).1.1 3) (leaveK (stG sp l0 k0 j).1.1 3)=rdO n (endG sp l0 k0 most).1 (endG sp l0 k0 most).2:=by
      unfold endG
      rw [hstop]
      dsimp only
      rw [if_pos hmt])
   |(have hmf:moreM (stG sp l0 k0 j).1.1 (stG sp l0 k0 j).1.2=false:=by simpa using h315
     have hstop:jG sp l0 k0 most=j:=jG_one ok (by omega) hj (by unfold goB;rw [hmf];rfl)
     have hE:rdO n (leaveL (stG sp l0 k0 j).1.1 (stG sp l0 k0 j).1.2) (leaveK (stG sp l0 k0 j).1.1 (stG sp l0 k0 j).1.2)=rdO n (endG sp l0 k0 most).1 (endG sp l0 k0 most).2:=by
      unfold endG
      rw [hstop]
      dsimp only
      rw [if_neg (by rw [hmf];simp)])
  refine jU 16 ?_;refine jF2 75 0 (leave_ac n (stG sp l0 k0 j).1.1 _ (by omega)) ?_
  dsimp only
  rw [hE,hstop]
  refine code_openR 0 rfl fun gl=>?_;refine jU 5500000501004016 ?_;refine jF3 0 810 (fun h323=>?_) fun h323=>?_
  ·refine jE (closeR n (endG sp l0 k0 most).2 (endG sp l0 k0 most).1 0 2 rfl rfl rfl (cO rfl) cZ (Nat.le_refl _) (fun _ _=>cZ)) ?_;refine jU 516 ?_;refine jE (nil_push (rowF 4 anF a00 [])) ?_;refine jU 30007000 ?_
   rw [if_neg (by omega)]
   exact end_pack (gd:=fun _:Unit=>0) (E:=fun _=>[rdO n (endG sp l0 k0 most).1 (endG sp l0 k0 most).2,ownA none []]) (.inl rfl) (.os 1 none 0 0 4) () [0,3] (by decide) rfl ((res_1 (v:=.c (.slice none 0 0)) rfl (arv_tmp rfl)).ent CEnt.nilOS) ⟨none,rfl,rfl⟩
  refine jE (closeR n (endG sp l0 k0 most).2 (endG sp l0 k0 most).1 0 2 rfl rfl rfl (cO rfl) cZ (Nat.le_refl _) (fun _ _=>cZ)) ?_;refine jU 70005116 ?_
  rw [if_pos (by omega)]
  exact end_pack (gd:=fun _:Unit=>0) (E:=fun _=>[rdO n (endG sp l0 k0 most).1 (endG sp l0 k0 most).2,ownA g (stG sp l0 k0 j).2]) (.inl rfl) (.os 1 g 0 (stG sp l0 k0 j).2.length 4) () [0,1] (by decide) rfl (res_1 rfl (arv_tmp rfl)) ⟨g,rfl,rfl⟩
 refine jF3 16 810 (fun h316=>?_) fun h316=>?_
 rotate_left
 ·have hmt0:moreM (stG sp l0 k0 j).1.1 (stG sp l0 k0 j).1.2=true:=by simpa using h315
  have hgo:goB sp l0 k0 most j=true:=by unfold goB;rw [hmt0,Bool.true_and,decide_eq_true_eq];omega
  refine jU 111200 ?_
  refine jqm (m_callHV1 (i:=0) rfl rfl (by assumption) rfl (hf (stG sp l0 k0 j).1.1 (stG sp l0 k0 j).1.2 hjl (by have h1:muS (stG sp l0 k0 j).1.1 (stG sp l0 k0 j).1.2=sumL (stG sp l0 k0 j).1.1+1:=(by unfold muS;rw [if_pos (more_pos hmt0).1]);omega) hmt0) (.cons cP .nil) rfl rfl ?_)
  rintro _ _ ⟨rfl,rfl⟩
  refine ⟨_,rfl,?_⟩
  refine jqe (jebl 4 4 zr33 fun p3=>?_)
  refine jqm (jac 40 (rowC_row 4 anF a00) (l2:=[(sp (stG sp l0 k0 j).1.1 (stG sp l0 k0 j).1.2).2]) fun p4=>?_)
  refine jU 840051 ?_
  exact jlend (j+1,p4) (h1:=fun i hi=>if h:i<j then hj i h else (by obtain rfl:i=j:=(by have hi:i<j+1:=hi;omega);exact hgo)) (h2:=ok.mu _ _ (by omega) (by unfold goB at hgo;rw [Bool.and_eq_true] at hgo;exact hgo.1))
 refine jq (jrde 2) ?_;refine jF2 84000200080000200060005 0 (fail08_ac n (stG sp l0 k0 j).1.1 (stG sp l0 k0 j).1.2 3) ?_
 first
  |(have hmt:moreM (stG sp l0 k0 j).1.1 (stG sp l0 k0 j).1.2=true:=by simpa using h315
    have hkz:=(more_pos hmt).1
    rw [if_pos hkz]
    have hstop:jG sp l0 k0 most=j:=jG_one ok (by omega) hj (by unfold goB;rw [hmt,Bool.true_and,decide_eq_false_iff_not];omega)
    have hE:rdO n (leaveL (stG sp l0 k0 j).1.1 3) (leaveK (stG sp l0 k0 j).1.1 3)=rdO n (endG sp l0 k0 most).1 (endG sp l0 k0 most).2:=by
     unfold endG
     rw [hstop]
     dsimp only
     rw [if_pos hmt])
  |(have hmf:moreM (stG sp l0 k0 j).1.1 (stG sp l0 k0 j).1.2=false:=by simpa using h315
    have hstop:jG sp l0 k0 most=j:=jG_one ok (by omega) hj (by unfold goB;rw [hmf];rfl)
    have hE:rdO n (leaveL (stG sp l0 k0 j).1.1 (stG sp l0 k0 j).1.2) (leaveK (stG sp l0 k0 j).1.1 (stG sp l0 k0 j).1.2)=rdO n (endG sp l0 k0 most).1 (endG sp l0 k0 most).2:=by
     unfold endG
     rw [hstop]
     dsimp only
     rw [if_neg (by rw [hmf];simp)])
 refine jU 16 ?_;refine jF2 75 0 (leave_ac n (stG sp l0 k0 j).1.1 _ (by omega)) ?_
 dsimp only
 rw [hE,hstop]
 refine code_openR 0 rfl fun gl=>?_;refine jU 5500000501004016 ?_;refine jF3 0 810 (fun h323=>?_) fun h323=>?_
 ·refine jE (closeR n (endG sp l0 k0 most).2 (endG sp l0 k0 most).1 0 2 rfl rfl rfl (cO rfl) cZ (Nat.le_refl _) (fun _ _=>cZ)) ?_;refine jU 516 ?_;refine jE (nil_push (rowF 4 anF a00 [])) ?_;refine jU 30007000 ?_
  rw [if_neg (by omega)]
  exact end_pack (gd:=fun _:Unit=>0) (E:=fun _=>[rdO n (endG sp l0 k0 most).1 (endG sp l0 k0 most).2,ownA none []]) (.inl rfl) (.os 1 none 0 0 4) () [0,3] (by decide) rfl ((res_1 (v:=.c (.slice none 0 0)) rfl (arv_tmp rfl)).ent CEnt.nilOS) ⟨none,rfl,rfl⟩
 refine jE (closeR n (endG sp l0 k0 most).2 (endG sp l0 k0 most).1 0 2 rfl rfl rfl (cO rfl) cZ (Nat.le_refl _) (fun _ _=>cZ)) ?_;refine jU 70005116 ?_
 rw [if_pos (by omega)]
 exact end_pack (gd:=fun _:Unit=>0) (E:=fun _=>[rdO n (endG sp l0 k0 most).1 (endG sp l0 k0 most).2,ownA g (stG sp l0 k0 j).2]) (.inl rfl) (.os 1 g 0 (stG sp l0 k0 j).2.length 4) () [0,1] (by decide) rfl (res_1 rfl (arv_tmp rfl)) ⟨g,rfl,rfl⟩
end
end
section
theorem u8_getD {l:List UInt8} {i:Nat} (h:i<l.length):l.getD i 0=l[i]:=by simp [List.getD,h]
theorem equal8_ac {gs:List Nat} (l r:List UInt8):ACp gs Tryz.prog 51 [bsC l,bsC r] (.c (.bool (decide (l=r)))):=by
 refine ac_len 0 rfl fun hlen=>?_;refine jF5 52313167516 26 Tryz.func51 fun al w0 F0 St0=>?_;refine jF3 800030007000516 20513167810 (fun h21=>?_) fun h21=>?_
 ·refine cB ?_
  refine (decide_eq_false fun h=>?_).symm
  rw [h] at h21;omega
 refine jlp (α:=Nat) [4,5,13,25] (fun i=>[(13,.c (.int .i64 (i:Nat)))]) (fun _=>[]) (fun i=>i≤l.length∧l.take i=r.take i) (fun i=>l.length-i) 0 (h0:=⟨by omega,by simp⟩) (hr:=?_)
 rintro i ⟨hi,he⟩
 refine jU 7526 ?_;refine jF3 75116207810 8000700051684000200020006000 (fun h24=>?_) fun h24=>?_
 rotate_left
 ·refine cB ?_
  refine (decide_eq_true ?_).symm
  have e1:l.take i=l:=List.take_of_length_le (by omega)
  have e2:r.take i=r:=List.take_of_length_le (by omega)
  rw [← e1,he,e2]
 refine jcd (oN 0 9) ?_;refine jU 900007070 ?_
 first|refine jyo jrdo ?_|refine jyq jrdr ?_
 refine jU 900007070 ?_
 first|refine jyo jrdo ?_|refine jyq jrdr ?_
 refine jU 880800 ?_;refine jF3 8000300050003000300050007000516 8519200840010 (fun h25=>?_) fun h25=>?_
 ·refine cB ?_
  refine (decide_eq_false fun h=>?_).symm
  rw [h] at h25;omega
 exact jlend (i+1) (h1:=⟨by omega,by rw [List.take_succ_eq_append_getElem (show i<l.length by omega),List.take_succ_eq_append_getElem (show i<r.length by omega),he,← u8_getD,← u8_getD,show l.getD i 0=r.getD i 0 from UInt8.toNat_inj.1 (by omega)]⟩)
end
section
open Go.RowKit Cal
set_option maxHeartbeats 4000000 in
theorem read13_w {gs:List Nat} [OkG gs] [OkT gs] (b:List UInt8) {K0 K1 K2 K3 K4 K5 KE:Nat} {L1 L2 L3 L4 L5:List (List UInt8)} {is:Bool} {ve:Int} {sp:List UInt8} {xs:List N4} (has:xs.length≤8)
  (hR:AC gs Tryz.prog 43 [] [bsC b] (fun r H'=>∃ n,r=.op 0 (some n) 0∧H'=[rdO n [b] K0])) (hE:RD gs 44 [b] K0 [.c (.int .i64 48)] (.c (.bool is)) L1 K1) (hI:RD gs 45 L1 K1 [.c (.int .i64 1),.c (.int .i64 1099511627776)] (.c (.int .i64 ve)) L2 K2)
  (hT:RD gs 46 L2 K2 [.c (.int .i64 64)] (strC sp) L3 K3) (hW:∀ n,AC gs Tryz.prog 47 [rdO n L3 K3] [.op 0 (some n) 0,.c (.int .i64 49),.c (.int .i64 8),.fn 48 0 fun _=>.top] (fun r H'=>∃ g,r=.os 1 g 0 xs.length 4∧H'=[bagE [rdO n L4 K4,ownA g xs]]))
  (hL:RD gs 49 L4 K4 [] (.c (.tuple #[])) L5 K5) (hN:RD gs 50 L5 K5 [] (.err KE) L5 K5) :
  ACp gs Tryz.prog 22 [bsC b] (.tup 2 (fl [bnC (finB b KE (ve,sp,xs)).1,.err (finB b KE (ve,sp,xs)).2])):=by
 have hB:=bytes13_ac (gs:=gs) (ordB (ve,sp,xs))
 have hS:=fun g=>sort13_ac (gs:=gs) g xs (by omega)
 refine ac_oF 49 Tryz.func22 fun al w0 F0 St0=>?_;refine jcr ?_
 refine jqe (jeal (n:=3) zr24 rfl fun p1=>?_)
 refine jU 1651 ?_
 refine jqe (jecS hR ?_)
 rintro _ _ ⟨n,rfl,rfl⟩
 refine jU 651 ?_
 refine jqe (jeal (n:=3) zr24 rfl fun p2=>?_)
 refine jU 165 ?_;refine jF2 165 1 (hE n) ?_;refine jF2 90 1 (hI n) ?_
 refine jqm (jmstF 1 (fl [.c (.int .i64 ve),strC [],.c (.slice none 0 0)]) ?_ ?_)
 ·exact jal
 refine jU 165 ?_;refine jF2 100 1 (hT n) ?_
 refine jqm (jmstF 1 (fl [.c (.int .i64 ve),strC sp,.c (.slice none 0 0)]) ?_ ?_)
 ·exact jal
 refine jU 165 ?_
 refine jqm (jmcH 1 (hW n) ?_)
 rintro _ _ ⟨g,rfl,rfl⟩;refine ⟨_,_,rfl,cZ,?_⟩
 refine seq_ent (bag_pop 1 rfl) ?_;refine seq_ent (bag_pop 1 rfl) ?_;refine seq_ent (pick_ent (H':=[_,rdO n L4 K4,_,ownA g xs]) [0,3,2,4] (by decide) rfl) ?_;refine seq_ent (weaken 20 (.os 3 g 0 xs.length 4) (cO rfl)) ?_;refine jU 1000 ?_
 refine jqm (jmstF 1 (fl [.c (.int .i64 ve),strC sp,.os 3 g 0 xs.length 4]) ?_ ?_)
 ·exact jal
 refine jU 165 ?_;refine jF2 1675 1 (hL n) ?_;refine jF2 55000001651 1 (hN n) ?_;refine jF3 0 810 (fun h103=>?_) fun h103=>?_
 ·refine jcr ?_;refine jq (rd_build (n:=3) rfl zr24 pl24 rfl rfl) ?_;refine jU 1 ?_
  refine jqm (jmstF 3 (bnF b00) ?_ ?_)
  ·exact jal
  refine jU 51 ?_
  refine jR (jtr (jrt (hres:=res_2 rfl (javA 3) javt) (hv:=?_)))
  rw [show finB b KE (ve,sp,xs)=(b00,KE) by unfold finB;rw [if_neg (by omega)]]
  exact cT jag cZ
 have hz:KE=0:=by omega
 refine jU 5010006 ?_
 refine jqm (jmcH 3 (hS g) ?_)
 rintro _ _ ⟨rfl,l',rfl,hl1,hl2⟩;refine ⟨_,_,rfl,cZ,?_⟩
 refine jU 5 ?_
 have hl3:=hl2 (by omega)
 subst hl3
 refine jE (freeze 3 rfl) ?_;refine jE (thawC 2 2 3 (bnF (ordB (ve,sp,xs))) (fun p q=>anF ((sortA xs).getD p a00) q) rfl rfl cZ (CEnt.rsL hl1.symm rfl) (fun j hj h0=>by rcases j with _|_|_|j <;> first|exact cZ|omega) (by omega) (fun p q hp hq=>CEnt.of_eq (by rw [Nat.zero_add];exact rowF_at hq))) ?_;refine jcr ?_;refine jqo (jrdoA 3) ?_;refine jF1 15000001675119009001 hB ?_;refine jF4 7900051000000004444 11 40 (fun g108=>?_) fun g108=>?_
 ·refine jcdZ (oT [0,2,5,6] .done) ?_;refine jzq (rd_build (n:=3) rfl zr24 pl24 rfl rfl) ?_;refine jzq (jrde 3) ?_
  refine jzm (jmstF 3 (bnF b00) ?_ ?_)
  ·exact jal
  refine jU 8700000400000 ?_
  refine jR (jtr (jrt (hres:=res_2 rfl (javA 3) javt) (hv:=?_)))
  rw [show finB b KE (ve,sp,xs)=(b00,4) by unfold finB;rw [if_pos hz,if_neg (by rintro ⟨h1,h2⟩;simp_all)]]
  exact cT jag (CEnt.errN rfl)
 refine jF1 550030 (equal8_ac (if rightB (ordB (ve,sp,xs))=true then bunB (ordB (ve,sp,xs)) else []) b) ?_;refine jF3 0 6810 (fun h108=>?_) fun h108=>?_
 rotate_left
 ·refine jqo (jrdoA 3) ?_
  refine jqm (jmstF 3 (bnF (ordB (ve,sp,xs))) ?_ ?_)
  ·exact jal
  refine jU 51 ?_
  refine jR (jrt (hres:=res_2 rfl (javA 3) javt) (hv:=?_))
  rw [show finB b KE (ve,sp,xs)=(ordB (ve,sp,xs),0) by unfold finB;rw [if_pos hz,if_pos (by by_cases hr:rightB (ordB (ve,sp,xs))=true <;> simp_all)]]
  exact cT jag CEnt.nil
 refine jcs ?_;refine jcdZ (oT [0,2,5,6] .done) ?_;refine jzq (rd_build (n:=3) rfl zr24 pl24 rfl rfl) ?_;refine jzq (jrde 3) ?_
 refine jzm (jmstF 3 (bnF b00) ?_ ?_)
 ·exact jal
 refine jU 8700000400000 ?_
 refine jR (jtr (jrt (hres:=res_2 rfl (javA 3) javt) (hv:=?_)))
 rw [show finB b KE (ve,sp,xs)=(b00,4) by unfold finB;rw [if_pos hz,if_neg (by rintro ⟨h1,h2⟩;simp_all)]]
 exact cT jag (CEnt.errN rfl)
section
variable {gs:List Nat} [OkG gs] [OkT gs]
attribute [local irreducible] readR readF enterL enterR leaveL leaveK endG stG jG endK in
theorem read13_ac (b:List UInt8) (hb:b.length≤90000):ACp gs Tryz.prog 22 [bsC b] (.tup 2 (fl [bnC (readB b).1,.err (readB b).2])):=by
 have B:=bd_b hb
 have n1:=now_le B.m1
 have n2:=now_le B.m2
 have n3:=now_le B.m3
 have few:(if (bh4 b).2=0 then ancL (bh3 b).l (bh3 b).k else []).length≤8:=by
  split
  ·exact B.few
  ·exact Nat.zero_le _
 have hT:RD gs 46 (bh2 b).1.1 (bh2 b).1.2 [.c (.int .i64 64)] (strC (bh3 b).v.t) (bh3 b).l (bh3 b).k:=fun n=>by
  have h:=textR_ac (gs:=gs) n (bh2 b).1.1 (bh2 b).1.2 ⟨B.l2.1,by have:=B.l2.2;omega⟩ (by omega)
  exact h
 have h:=read13_w b few (read08_ac (gs:=gs) b (by omega)) (fun n=>enter_ac (gs:=gs) n [b] (depthM b).2 48 (by simp) (by show b.length≤_;omega)) (fun n=>intF_ac (gs:=gs) n (bhL1 b) (bhK1 b) 1 1099511627776 ⟨B.l1.1,by have:=B.l1.2;omega⟩ (by omega)) hT
  (fun n=>rowON_ac (gs:=gs) (f:=48) (by kernel_rfl) n (bh3 b).l (bh3 b).k 49 8 anc_ok ⟨B.l3.1,by have:=B.l3.2;omega⟩ (mu_sum B.m3) (fun l k h1 h2 _=>get13_ac n l k h1 (by unfold muS;split <;> omega))) (fun n=>leave_ac (gs:=gs) n (bh4 b).1 (bh4 b).2 ⟨B.l4.1,by have:=B.l4.2;omega⟩) (fun n=>end08_ac (gs:=gs) n (leaveL (bh4 b).1 (bh4 b).2) (leaveK (bh4 b).1 (bh4 b).2) ⟨B.l5.1,by have:=B.l5.2;omega⟩)
 have e:finB b (endK (leaveL (bh4 b).1 (bh4 b).2) (leaveK (bh4 b).1 (bh4 b).2)) ((bh2 b).2.n,(bh3 b).v.t,(if (bh4 b).2=0 then ancL (bh3 b).l (bh3 b).k else []))=readB b:=by
  unfold readB
  by_cases hz:bhK b=0
  ·rw [if_pos (hK_z hz)];rfl
  ·show finB b (bhK b) _=finB b (bhK b) _
   unfold finB
   rw [if_neg hz,if_neg hz]
 rw [← e]
 exact h
end
end
section
open Go.RowKit Cal
theorem fid_len (l:List (List UInt8)) (k:Nat):(readF fId l k).2.b.length≤16:=by
 unfold readF
 rw [if_neg (by decide)]
 show (readR (fdA fId) l k).v.b.length≤16
 unfold readR
 rw [if_neg (by decide),if_neg (by decide),if_neg (by decide)]
 unfold readV
 split
 ·show (octM 16 16 (nextR 4 l k).body).1.length≤_
  unfold octM
  repeat' split
  all_goals (simp only [List.length_nil];omega)
 ·simp [VV.none]
theorem stG_allP {α:Type} {P:α→Prop} {d:α} (sp:StepR α) (l0:List (List UInt8)) (k0:Nat) (h0:P d) (h:∀ l k,P (sp l k).2):∀ j i,P ((stG sp l0 k0 j).2.getD i d)
 | 0,i=>h0
 | j+1,i=>by
  have ih:=stG_allP sp l0 k0 h0 h j
  show P ((_++[_]).getD i d)
  simp only [List.getD_eq_getElem?_getD,List.getElem?_append,List.getElem?_singleton] at ih ⊢
  split
  ·exact ih i
  ·split
   ·exact h _ _
   ·exact h0
attribute [local irreducible] readR readF enterL enterR leaveL leaveK in
theorem ranc_key (l0:List (List UInt8)) (k0:Nat) (j i:Nat):((stG rancSp l0 k0 j).2.getD i a00).2.1.length≤1000000 :=
 stG_allP (P:=fun a:N4=>a.2.1.length≤1000000) rancSp l0 k0 (Nat.zero_le _) (fun l k=>by
  show (flatX (readF fId (readF fGe (enterL 48 l k) (enterR 48 l k).k).1.1 (readF fGe (enterL 48 l k) (enterR 48 l k).k).1.2).2.b).length≤_
  rw [flatX_len]
  exact Nat.le_trans (Nat.mul_le_mul_left 2 (fid_len _ _)) (by decide)) j i
attribute [local irreducible] readR readF enterL enterR leaveL leaveK endK endG stG jG in
theorem rread13_ac {gs:List Nat} (b:List UInt8) (hb:b.length≤90000):ACp gs Tryz.prog 23 [bsC b] (.tup 2 (fl [bnC (readB b).1,.c (.int .i64 ((readB b).2:Nat))])):=by
 have B:=bd_b hb
 have n1:=now_le B.m1
 have n2:=now_le B.m2
 have n3:=now_le B.m3
 have n4:=now_le B.m4
 have q1:=enterL_bd 49 (bh3 b).l (bh3 b).k B.l3.1
 have q2:=(enter_mu (t:=49) (l:=(bh3 b).l) (k:=(bh3 b).k) B.l3.1).2.1
 obtain ⟨r1,r2,r3⟩:=ranc_row (l:=(bh3 b).l) (k:=(bh3 b).k) B.l3.1
 obtain ⟨f1,f2⟩:=read_enter aL rfl [b] (depthM b).2
 have hE:=rdoF13_ac (gs:=gs) [b] (depthM b).2 aL (by simp) (by show b.length≤_;omega) (.inl rfl)
 rw [f1,f2,show enterL aL.tag [b] (depthM b).2=bhL1 b by unfold bhL1;rfl,show (enterR aL.tag [b] (depthM b).2).k=bhK1 b by unfold bhK1;rfl] at hE
 have hse:bh2 b=(((readR (fdA fSe) (bhL1 b) (bhK1 b)).l,(readR (fdA fSe) (bhL1 b) (bhK1 b)).k),⟨(readR (fdA fSe) (bhL1 b) (bhK1 b)).v.n,(readR (fdA fSe) (bhL1 b) (bhK1 b)).v.t,(readR (fdA fSe) (bhL1 b) (bhK1 b)).v.b,zeroS⟩):=by unfold bh2 readF;rw [if_neg (by decide)]
 have hV:QD gs 53 (bhL1 b) (bhK1 b) [askC (fdA fSe)] (valC (readR (fdA fSe) (bhL1 b) (bhK1 b)).v) (bh2 b).1.1 (bh2 b).1.2:=by
  rw [hse]
  exact rdoF13_ac (gs:=gs) (bhL1 b) (bhK1 b) (fdA fSe) ⟨B.l1.1,by have:=B.l1.2;omega⟩ (by omega) (by simp [fdA,fSe])
 have hS:QD gs 53 (bh2 b).1.1 (bh2 b).1.2 [askC aTx] (valC (bh3 b).v) (bh3 b).l (bh3 b).k:=by
  rw [show bh3 b=readR aTx (bh2 b).1.1 (bh2 b).1.2 by unfold bh3;rfl]
  exact rdoF13_ac (gs:=gs) (bh2 b).1.1 (bh2 b).1.2 aTx ⟨B.l2.1,by have:=B.l2.2;omega⟩ (by omega) (by simp [aTx])
 obtain ⟨g1,g2⟩:=read_enter ⟨1,49,0,0⟩ rfl (bh3 b).l (bh3 b).k
 have hT:=rdoF13_ac (gs:=gs) (bh3 b).l (bh3 b).k ⟨1,49,0,0⟩ ⟨B.l3.1,by have:=B.l3.2;omega⟩ (by omega) (.inl rfl)
 rw [g1,g2] at hT
 obtain ⟨p1,p2⟩:=read_leave aE rfl (bh4 b).1 (bh4 b).2
 have hL:=rdoF13_ac (gs:=gs) (bh4 b).1 (bh4 b).2 aE ⟨B.l4.1,by have:=B.l4.2;omega⟩ (by omega) (.inr (.inl rfl))
 rw [p1,p2] at hL
 have r1:endG rancSp (enterL 49 (bh3 b).l (bh3 b).k) (enterR 49 (bh3 b).l (bh3 b).k).k 8=bh4 b:=r1
 rw [← r1] at hL
 have hN:QD gs 56 (leaveL (bh4 b).1 (bh4 b).2) (leaveK (bh4 b).1 (bh4 b).2) [] (.c (.int .i64 (bhK b:Nat))) (leaveL (bh4 b).1 (bh4 b).2) (leaveK (bh4 b).1 (bh4 b).2):=by
  rw [show bhK b=endK (leaveL (bh4 b).1 (bh4 b).2) (leaveK (bh4 b).1 (bh4 b).2) by unfold bhK;rfl]
  exact fun n=>rend08_ac n _ _ ⟨B.l5.1,by have:=B.l5.2;omega⟩
 rw [← r1] at hN
 have hl3:=B.l3.2
 have h:=rread13_w b ⟨q1.1,Nat.le_trans q1.2 (by omega)⟩ (Nat.le_trans q2 B.m3) (rread08_ac (gs:=gs) b (by omega)) hE hV hS hT hL hN (fun i=>ranc_key _ _ _ i)
 have e:(readR (fdA fSe) (bhL1 b) (bhK1 b)).v.n=(bh2 b).2.n:=by rw [hse]
 rw [e] at h
 have e2:finB b (bhK b) ((bh2 b).2.n,(bh3 b).v.t,(stG rancSp (enterL 49 (bh3 b).l (bh3 b).k) (enterR 49 (bh3 b).l (bh3 b).k).k (jG rancSp (enterL 49 (bh3 b).l (bh3 b).k) (enterR 49 (bh3 b).l (bh3 b).k).k 8)).2)=readB b:=by
  unfold readB
  by_cases hz:bhK b=0
  ·rw [r3 (hK_z hz)];unfold gotB;rfl
  ·unfold finB
   rw [if_neg hz,if_neg hz]
 rw [e2] at h
 exact h
end
section
open Go.RowKit Cal
theorem fieldA_k (f:Fd) {l:List (List UInt8)} {k:Nat} (h:k≤28):(readF f l k).1.2≤28:=by
 unfold readF
 split
 ·exact getS_k h
 ·exact readR_k _ h
theorem enterA_k (t:Int) (l:List (List UInt8)) {k:Nat} (h:k≤28):(enterR t l k).k≤28:=by
 have e:=(read_enter ⟨1,t,0,0⟩ rfl l k).2
 have:=readR_k ⟨1,t,0,0⟩ (l:=l) h
 rw [e] at this
 exact this
theorem fieldsA_k:∀ (fs:List Fd) {l:List (List UInt8)} {k:Nat},k≤28→(readFs fs l k).1.2≤28
 | [],_,_,h=>h
 | f::fs,l,k,h=>by
  show (readFs fs (readF f l k).1.1 (readF f l k).1.2).1.2≤28
  exact fieldsA_k fs (fieldA_k f h)
attribute [local irreducible] bhL1 bhK1 bh2 bh3 bh4 bhK readR readF endK leaveK leaveL endG enterL enterR in
theorem readB_k (b:List UInt8):(readB b).2≤28:=by
 have k1:bhK1 b≤28:=by unfold bhK1;exact enterA_k 48 _ (Nat.le_trans (depthM_bd b).2 (by decide))
 have k2:(bh2 b).1.2≤28:=by unfold bh2;exact fieldA_k fSe k1
 have k3:(bh3 b).k≤28:=by unfold bh3;exact readR_k aTx k2
 have k4:(bh4 b).2≤28:=by unfold bh4 ancE;exact endG_k (sp:=ancSp) (fun l k h=>leave_k (fieldsA_k fsA (enterA_k 48 l h))) (enterA_k 49 _ k3)
 have k5:bhK b≤28:=by unfold bhK;exact endK_bd (leave_k k4)
 unfold readB finB
 repeat' split
 all_goals (dsimp only;omega)
theorem readB_few (b:List UInt8):(readB b).1.2.2.length≤8:=by
 unfold readB finB
 split
 ·split
  ·rename_i h
   exact (good_B3 h.1).n8.2
  ·exact (by decide:(0:Nat)≤8)
 ·exact (by decide:(0:Nat)≤8)
end
section
open Go.RowKit Cal
set_option maxHeartbeats 4000000 in
theorem bundleRead_ac {gs:List Nat} [OkG gs] [OkT gs] (b:List UInt8):ACp gs Tryz.prog 5 [bsC b] (.c (.bool true)):=by
 have hR:=fun h=>read13_ac (gs:=gs) b h
 have hr:=fun h=>rread13_ac (gs:=gs) b h
 have k1:=readB_k b
 have k2:=readB_few b
 generalize (readB b).2=e1 at *
 generalize (readB b).1=q1 at *
 refine jF5 67516 40 Tryz.func5 fun al w0 F0 St0=>?_;refine jF1 530 alive13_ac ?_;refine jF3 0 523167810 (fun h66=>?_) fun h66=>?_
 ·exfalso;exact absurd h66 (by decide)
 refine jF3 516 16810 (fun h69=>?_) fun h69=>?_
 ·refine jR (jtr (jrt (hv:=cZ)))
 refine jF1 1651 (nb_ac b (by omega)) ?_
 refine jqe (jecP (hR (by omega)) ?_ (ho:=rfl) (he:=(.cons (se rfl CEnt.mark) .nil)))
 refine jU 9009001 ?_
 refine jqe (jeal (n:=3) zr24 rfl fun p1=>?_)
 refine jqm (jmstF 3 (bnF q1) ?_ ?_)
 ·exact jal
 refine jU 1651 ?_;refine jF1 9009001 (hr (by omega)) ?_
 refine jqe (jeal (n:=3) zr30 rfl fun p2=>?_)
 refine jqm (jmstF 3 (bnF q1) ?_ ?_)
 ·exact jal
 refine jU 751 ?_;refine jE (freeze 0 rfl) ?_;refine jE (freeze 1 rfl) ?_;refine jE (thawP 4 (m:=3) rfl rfl (by decide)) ?_;refine jE (thawP 6 (m:=3) rfl rfl (by decide)) ?_;refine jcd (oT [0,4,3,6,8,10,14,13,17,18,20,22,24,27,28,30] .done) ?_;refine jU 7070 ?_
 refine jye (jecP (num_ac e1 k1) ?_)
 refine jU 70800 ?_;refine jysp 29 (fun g75=>?_) fun g75=>?_
 rotate_left
 ·refine jU 600600 ?_;refine jys1 ?_;refine jys1 ?_;refine jU 60060070300000 ?_;refine jys1 ?_;refine jU 8000700088070300000 ?_;refine cB ?_
  (simp_all;done)
 refine jyq (jrdrA 3) ?_;refine jyq (jrdrA 3) ?_
 refine jye (jecP (of13_ac q1 (by omega)) ?_)
 refine jye (jecP (rsame13_ac q1 q1 (by omega)) ?_)
 refine jU 703000000 ?_;refine jysp 35 (fun g75_2=>?_) fun g75_2=>?_
 ·refine jU 7070 ?_
  refine jye (jecP (kept_ac b) ?_)
  refine jU 80007000880703000000 ?_;refine cB ?_
  rfl
 refine jU 600600 ?_;refine jys1 ?_;refine jU 8000700088070300000 ?_;refine cB ?_
 (simp_all;done)
end
end Am
end Go.Proofs.YtnijncmifjnifaaGreatDoor
