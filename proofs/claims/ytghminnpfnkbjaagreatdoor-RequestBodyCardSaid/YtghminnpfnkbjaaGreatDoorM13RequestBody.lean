/- What the law leans on, part 13 -/
import Derived.Test.YtghminnpfnkbjaaGreatDoorM12RequestBody
set_option maxRecDepth 100000
set_option maxHeartbeats 8000000
variable {gs:List Nat}
open Go.Proofs.Tryz
open List (set_cons_zero set_cons_succ cons_append nil_append length_cons length_nil)
namespace Go.Proofs.YtghminnpfnkbjaaGreatDoor
set_option linter.unusedVariables false
namespace Am
open Go.RowKit
section
open Go.RowKit Cal
def cM (b s:I):I:=bB 48 (b++bB 4 s)
theorem U7 {b:I} (h:(aR b).2=0):∃ t x,b=bB t x∧bH t=true∧x.length≤65530:=by
 unfold aR at h
 by_cases h1:65536<b.length
 ·rw [Zz h1] at h;cases h
 ·rw [Zy h1] at h
  by_cases h2:(ah b).e≠0
  ·rw [Zz h2] at h;exact absurd h h2
  ·rw [Zy h2] at h
   by_cases h3:0<(ah b).rest.length
   ·rw [Zz h3] at h;cases h
   ·obtain ⟨e1,e2,e3⟩:=xO (a3x.1 h2)
    have e4:(ah b).rest=[]:=alx.1 O
    rw [e4,aMx] at e1
    exact ⟨_,_,e1,e2,e3⟩
theorem NF {b:I} (h:(aR b).2=0) (ls:Zx) (r:I):(aj 0 (ls++[b++r]) 0).l=ls++[r]∧(aj 0 (ls++[b++r]) 0).k=0∧(aj 0 (ls++[b++r]) 0).raw=b:=by
 obtain ⟨t,x,rfl,hk,hl⟩:=U7 h
 have hn:=xN (r:=r) hk hl
 unfold aj
 rw [Zy jD,iU,hn,Zy (by simp),Zy (by simp)]
 refine ⟨?_,rfl,?_⟩
 ·show (ls++[bB t x++r]).set ((ls++[bB t x++r]).length-1) r=_
  simp
 ·show (bB t x++r).take ((bB t x++r).length-r.length)=_
  simp
theorem BS {fr:List (Int×Zx)} (h1:fr.length≤16) (h2:∀ x ∈ fr,x.2.length≤1000000∧cw x.2≤1000000):vV ⟨fr,[],0⟩:=⟨h1,h2,by simp⟩
section
variable {gs:List Nat} [dO gs] {b s:I}
theorem uU (hb:b.length≤60000) (hs:s.length=32):(b++bB 4 s).length≤60100∧(cM b s).length≤60200:=by
 have h1:=eG 4 s
 have h2:=eG 48 (b++bB 4 s)
 unfold cM
 rw [ZD] at h2 ⊢
 omega
theorem YC:PW gs 40 Tv [.c (.int .i64 48)] ⟨[(48,[])],[],0⟩:=fun n=>pA n Tv 48 YV
theorem YB (hb:b.length≤60000) (hd:(aR b).2=0):PW gs 84 ⟨[(48,[])],[],0⟩ [bc b] ⟨[(48,[b])],[],0⟩:=fun n=>by
 have h:=Rt (gs:=gs) n ⟨[(48,[])],[],0⟩ b O (BS (by simp) (by simp [cw]))
 have e:uz b ⟨[(48,[])],[],0⟩=⟨[(48,[b])],[],0⟩:=by
  unfold uz
  rw [hd,sk,Zz rfl]
  rfl
 rw [e] at h
 exact h
theorem YA (hb:b.length≤60000) (hs:s.length=32):PW gs 42 ⟨[(48,[b])],[],0⟩ [bc s] ⟨[(48,[b,bB 4 s])],[],0⟩:=fun n=>by
 have h:=xJ (gs:=gs) n ⟨[(48,[b])],[],0⟩ s O (BS (by simp) (fun x hx=>by
  rw [agx.1 hx]
  simp [cw]
  omega))
 rw [rS rfl jD O,mI] at h
 exact h
theorem Yz (hb:b.length≤60000) (hs:s.length=32):PW gs 48 ⟨[(48,[b,bB 4 s])],[],0⟩ [] ⟨[],cM b s,0⟩:=fun n=>by
 have hl:=(uU hb hs).1
 have hp:=eG 4 s
 have h:=nD (gs:=gs) n ⟨[(48,[b,bB 4 s])],[],0⟩ (BS (by simp) (fun x hx=>by
  rw [agx.1 hx]
  simp [cw]
  omega))
 have e:[b,bB 4 s].flatten=b++bB 4 s:=by simp
 rw [pT jD jD (by rw [e];omega),e] at h
 exact h
theorem Sc (hb:b.length≤60000) (hs:s.length=32):ip ⟨[],cM b s,0⟩=0∧ry ⟨[],cM b s,0⟩=cM b s:=by
 have hl:=(uU hb hs).2
 have hz:ip (⟨[],cM b s,0⟩:W8)=0:=by
  unfold ip
  rw [Zy (by simp),Zy (by simp),Zy (by dsimp only;omega)]
 refine ⟨hz,?_⟩
 unfold ry
 rw [Zz hz]
end
end
section
open Go.RowKit Cal
theorem sR (q:Q5) (hk:q.2.1.length≤1000000):cd gs prog 17 [lg q] (.c (.bool (cl q))):=by
 have har:=Bb q.2.2.2.2
 refine ae 42 func17 fun _ _ _ _=>?_;refine eA ?_
 refine aq (ee 7 fun p1=>?_)
 refine U 6751 ?_;refine jq (en 0 3 true) ?_;refine kj (bD 3) ?_
 refine aq (ak (zP q.1) ?_)
 refine U 130 ?_;refine aH 7 (fun g15=>?_) fun g15=>?_
 ·refine U 80003000700051690005100000000444411000000004444 ?_;refine cB ?_
  unfold cl
  (simp_all;done)
 refine jq (en 0 3 true) ?_;refine U 150025090 ?_;refine aH 13 (fun g15_2=>?_) fun g15_2=>?_
 ·refine U 800030007000516900051000000004444 ?_;refine cB ?_
  unfold cl
  (simp_all;done)
 refine U 505000000 ?_
 refine aq (ak (Uy q.2.1 hk) ?_)
 refine U 550030 ?_;refine an (fun h15=>?_) fun h15=>?_
 ·refine U 800030007000516 ?_;refine cB ?_
  unfold cl
  (simp_all;done)
 refine U 125070000006810 ?_;refine aH 22 (fun g18=>?_) fun g18=>?_
 rotate_left
 ·refine U 8000700051500444150044415004441500444 ?_;refine cB ?_
  unfold cl
  (simp_all;omega)
 refine U 11000000002507000000 ?_;refine aH 27 (fun g18_2=>?_) fun g18_2=>?_
 rotate_left
 ·refine U 800070005150044415004441500444 ?_;refine cB ?_
  unfold cl
  (simp_all;omega)
 refine U 11000000002506000000 ?_;refine aH 32 (fun g18_3=>?_) fun g18_3=>?_
 rotate_left
 ·refine U 80007000515004441500444 ?_;refine cB ?_
  unfold cl
  (simp_all;omega)
 refine U 11000000002506000000 ?_;refine aH 37 (fun g18_4=>?_) fun g18_4=>?_
 ·refine U 5020000000 ?_
  refine aq (ak (M2 q.2.2.2.2) ?_)
  refine U 8000700051100000000 ?_;refine cB ?_
  unfold cl
  (simp_all;done)
 refine U 8000700051500444 ?_;refine cB ?_
 unfold cl
 (simp_all;omega)
section
variable {gs:List Nat} [dO gs] [rz gs] {q:Q5}
theorem Qw (n:Nat) (w:W8) (s:I) (hs:vV w) (h:az s 64=0):AC gs prog 46 [iu n w] [.op 0 (some n) 0,ap s] (fun r H'=>r=.c (.tuple #[])∧H'=[iu n (mC (G3 s) w)]):=by
 have hl:=ii h
 have ht:=CW (gs:=gs) n w s 64 O hs
 have e:mC (G3 s) w=fH 12 (if az s 64=0 then s else []) (az s 64) w:=Ig (kd:=7) jD jD jD _ _ _ _
 rw [← e] at ht
 refine ae 7 func46 fun _ _ _ _=>?_;refine U 11200 ?_
 refine aw (aN 0 ht ?_)
 refine U 5 ?_
 exact bi (.inr rfl) _ [_] [0] jD rfl (br rfl) ⟨rfl,rfl⟩
theorem Yo {gs:List Nat} [dO gs]:PW gs 40 Tv [.c (.int .i64 48)] XZ:=fun n=>pA n Tv 48 YV
theorem Yn (h:fG q):PW gs 41 XZ [mj q.1] (V7 q):=fun n=>RQ n Ox jD q.1
theorem Ym {gs:List Nat} [dO gs] (h:fG q):PW gs 42 (V7 q) [bc (eY q.2.1)] (TB q):=fun n=>RM n _ 16 16 (wo (eY q.2.1)) (gD (Gm h) jD) (by show (eY q.2.1).length≤1000000;have:=kG q.2.1;have:=h.hk.1;omega)
theorem Yl {gs:List Nat} [dO gs] (h:fG q):PW gs 43 (TB q) [.c (.int .i64 q.2.2.1)] (U2 q):=fun n=>by
 have hf:=KJ (gs:=gs) n (TB q) q.2.2.1 (gD (Gl h) jD)
 have e:U2 q=fH 3 (k8 q.2.2.1) (oR q.2.2.1) (TB q):=Ig (kd:=10) jD jD jD _ _ _ _
 rw [e]
 exact hf
theorem Yk {gs:List Nat} [dO gs] (h:fG q):PW gs 44 (U2 q) [.c (.int .i64 q.2.2.2.1)] (Ru q):=fun n=>Sl n _ 1 253402300799 (yZ q.2.2.2.1) (gD (Gk h) jD) (mz pB h.du jD).2.2.2.2.2.2.1
theorem Yj (h:fG q):PW gs 45 (Ru q) [.c (.int .i64 48),ua q.2.2.2.2,.fn 46 0 fun _=>.top] (U1 q):=fun n =>
 MD (f:=46) (by kernel_rfl) n 48 (Ru q) q.2.2.2.2 (tW (Ru q) q.2.2.2.2) (gD (Gj h) jD) rfl (fun i hi=>gD (Ca h i hi) (by have:=h.n8;omega)) (by have:=h.n8;omega) (fun i hi=>by
  have e:q.2.2.2.2.getD i []=q.2.2.2.2[i]:=by simp [List.getD,hi]
  exact Qw n _ (q.2.2.2.2.getD i []) (gD (Ca h i O) (by have:=h.n8;omega)) (by rw [e];exact h.al _ (aAx _)))
theorem Yi {gs:List Nat} [dO gs] (h:fG q):PW gs 48 (U1 q) [] (U0 q):=fun n=>nD n (U1 q) (gD (Gi h) jD)
theorem qY (q:Q5) (hn:q.2.2.2.2.length≤1000):cd gs prog 15 [lg q] (.tup 2 (fl [bc (if cl q=true then dA q else []),.err (if cl q=true then 0 else 4)])):=by
 have hm:=RU (gs:=gs) q.2.1
 have hho:dD q.2.1=false→cl q=false:=fun h=>by unfold cl;simp [h]
 refine ae 50 func15 fun _ _ _ _=>?_;refine eA ?_
 refine aq (ee 7 fun p1=>?_)
 refine U 5050000006511 ?_
 refine aq (ak hm ?_)
 refine U 15000001675119009001 ?_;refine aH 15 (fun g37=>?_) fun g37=>?_
 ·refine U 790005100000000444 ?_;refine dQ (.rd 0 (.rd 1 (.rd 2 .done))) ?_;refine U 80003000700088070704000000 ?_
  have hr:cl q=false:=by
   first
    |(simpa using ‹(!cl q)=true›)
    |(refine hho ?_
      cases e:dD q.2.1 with
      | false=>rfl
      | true=>simp [e] at g37)
  rw [hr]
  exact cT cN (aa.errN rfl)
 refine kj (bD 7) ?_
 refine aq (ak (qr q) ?_)
 refine U 550030 ?_;refine an (fun h37=>?_) fun h37=>?_
 ·refine ia ?_;refine dQ (.rd 0 (.rd 1 (.rd 2 .done))) ?_;refine U 80003000700088070704000000 ?_
  have hr:cl q=false:=by
   first
    |(simpa using ‹(!cl q)=true›)
    |(refine hho ?_
      cases e:dD q.2.1 with
      | false=>rfl
      | true=>simp [e] at g37)
  rw [hr]
  exact cT cN (aa.errN rfl)
 refine U 810 ?_
 have hr:cl q=true:=by simpa using ‹(!cl q)=false›
 have hg:=mU hr
 have ho:dD q.2.1=true:=by
  cases e:dD q.2.1 with
  | true=>rfl
  | false=>rw [hho e] at hr;cases hr
 rw [Zz hr,Zz hr]
 simp only [ho,if_true]
 refine eA ?_;refine jq (au (n:=3) rfl Wh WV rfl rfl) ?_
 refine aq (ee 3 fun p2=>?_)
 refine U 51 ?_;refine cL (ig 6 rfl) fun hn=>?_
 obtain ⟨n,rfl⟩:=hn
 refine jE (W6 n 1 rfl Z Z aa.nil) ?_
 dsimp only [set_cons_zero,set_cons_succ,cons_append,nil_append,length_cons,length_nil,Nat.zero_add,Nat.reduceAdd]
 refine U 16 ?_
 refine aw (aN 1 (Yo n) ?_)
 refine U 165 ?_;refine jq (en 0 3 true) ?_;refine kj (bD 3) ?_
 refine aw (aN 1 (Yn hg n) ?_)
 refine U 1165 ?_
 refine aw (aN 1 (Ym hg n) ?_)
 refine U 507000000165 ?_
 refine aw (aN 1 (Yl hg n) ?_)
 refine U 506000000165 ?_
 refine aw (aN 1 (Yk hg n) ?_)
 refine U 5020000000165 ?_
 refine aw (aN 1 (Yj hg n) ?_)
 refine U 165 ?_
 refine aw (aN 1 (Yi hg n) ?_)
 refine U 165 ?_
 refine aw (aN 1 (Pj n (U0 q) (gD (Gg hg) jD)) ?_)
 refine U 80007000511900900 ?_
 have ⟨e1,e2⟩:=Hl hg
 rw [e1,e2]
 exact Z
end
end
section
open Go.RowKit Cal
theorem uw {f:Nat→CV} (h:∀ j,j<7→aa (f j) (BI Dy j)):aa (.agg 7 f) (lg Dy):=aa.agg rfl h
section
variable {gs:List Nat} [dO gs] [rz gs]
theorem LR (n:Nat) (l:Zx) (k:Nat) (hl:0<l.length∧l.length≤1000000) (hb:(cc l).length≤10000000):AC gs prog 63 [eo n l k] [.op 0 (some n) 0] (fun r H'=>r=ap (iv l k).2∧H'=[eo n (iv l k).1.1 (iv l k).1.2]):=by
 have h:=CX (gs:=gs) n l k hl hb
 refine ae 5 func63 fun _ _ _ _=>?_;refine U 16516 ?_
 refine aw (aN 0 h ?_)
 refine U 700051 ?_
 exact bR (.inl rfl) rfl (aK rfl (ai rfl)) Z
def RD (gs:List Nat) (f:FuncId) (l:Zx) (k:Nat) (args:List CV) (r:CV) (l':Zx) (k':Nat):Prop:=∀ n,AC gs prog f [eo n l k] (.op 0 (some n) 0::args) (fun x H'=>x=r∧H'=[eo n l' k'])
theorem MN {gs:List Nat} [dO gs] (b:I) {K0 K1 K2 K3 K4 K5 K6 K7 KE:Nat} {L1 L2 L3 L4 L5 L6 L7:Zx} {is:Bool} {who:S3} {id:I} {us du:Int} {ts:Zx}
  (hR:AC gs prog 56 [] [bc b] (fun r H'=>∃ n,r=.op 0 (some n) 0∧H'=[eo n [b] K0])) (hE:RD gs 57 [b] K0 [.c (.int .i64 48)] (.c (.bool is)) L1 K1) (hW:RD gs 58 L1 K1 [] (mj who) L2 K2)
  (hI:RD gs 59 L2 K2 [.c (.int .i64 16),.c (.int .i64 16)] (bc id) L3 K3) (hF:RD gs 60 L3 K3 [] (.c (.int .i64 us)) L4 K4) (hD:RD gs 61 L4 K4 [.c (.int .i64 1),.c (.int .i64 253402300799)] (.c (.int .i64 du)) L5 K5)
  (hT:RD gs 62 L5 K5 [.c (.int .i64 48),.c (.int .i64 8),.fn 63 0 fun _=>.top] (ua ts) L6 K6) (hL:RD gs 65 L6 K6 [] (.c (.tuple #[])) L7 K7) (hN:RD gs 66 L7 K7 [] (.err KE) L7 K7) :
  cd gs prog 19 [bc b] (.tup 2 (fl [lg (tC KE (who,bJ id,us,du,ts)).1,.err (tC KE (who,bJ id,us,du,ts)).2])):=by
 have hM:=NH (gs:=gs) id
 have hQ:=qr (gs:=gs) (who,(if id.length=16 then bJ id else []),us,du,ts)
 have hno:¬ id.length=16→cl (who,bJ id,us,du,ts)=false:=fun h=>by
  have:dD (bJ id)=false:=uY (by rw [gt];omega)
  unfold cl
  simp [this]
 refine ae 53 func19 fun _ _ _ _=>?_;refine eA ?_
 refine aq (dh (n:=7) ue rfl fun p1=>?_)
 refine U 1651 ?_
 refine aq (yc hR ?_)
 rintro _ _ ⟨n,rfl,rfl⟩
 refine U 651 ?_
 refine aq (dh (n:=7) ue rfl fun p2=>?_)
 refine U 5 ?_;refine jE (dt 2 (m:=7) (F:=fl [.c (.int .i64 0),ap [],ap [],ap [],.c (.int .i64 0),.c (.int .i64 0),.c (.slice none 0 0)]) rfl jD (fun _=>rfl) sb) ?_;refine U 16 ?_
 refine aw (aN 1 (hE n) ?_)
 refine U 5 ?_
 dsimp only [set_cons_zero,set_cons_succ,cons_append,nil_append,length_cons,length_nil,Nat.zero_add,Nat.reduceAdd]
 refine U 16 ?_
 refine aw (aN 1 (hW n) ?_)
 refine jq (en 0 3 true) ?_
 refine aw (bg 3 (fl [.c (.int .i64 who.1),ap who.2.1,ap who.2.2,ap [],.c (.int .i64 0),.c (.int .i64 0),.c (.slice none 0 0)]) ?_ ?_)
 exact sb
 refine U 5 ?_
 dsimp only [set_cons_zero,set_cons_succ,cons_append,nil_append,length_cons,length_nil,Nat.zero_add,Nat.reduceAdd]
 refine U 16 ?_
 refine aw (aN 1 (hI n) ?_)
 refine U 51 ?_
 dsimp only [set_cons_zero,set_cons_succ,cons_append,nil_append,length_cons,length_nil,Nat.zero_add,Nat.reduceAdd]
 refine U 16 ?_
 refine aw (aN 1 (hF n) ?_)
 refine U 7000000 ?_
 refine aw (bg 1 (fl [.c (.int .i64 who.1),ap who.2.1,ap who.2.2,ap [],.c (.int .i64 us),.c (.int .i64 0),.c (.slice none 0 0)]) ?_ ?_)
 exact sb
 refine U 5 ?_
 dsimp only [set_cons_zero,set_cons_succ,cons_append,nil_append,length_cons,length_nil,Nat.zero_add,Nat.reduceAdd]
 refine U 16 ?_
 refine aw (aN 1 (hD n) ?_)
 refine U 6000000 ?_
 refine aw (bg 1 (fl [.c (.int .i64 who.1),ap who.2.1,ap who.2.2,ap [],.c (.int .i64 us),.c (.int .i64 du),.c (.slice none 0 0)]) ?_ ?_)
 exact sb
 refine U 5 ?_
 dsimp only [set_cons_zero,set_cons_succ,cons_append,nil_append,length_cons,length_nil,Nat.zero_add,Nat.reduceAdd]
 refine U 16 ?_
 refine aw (aN 1 (hT n) ?_)
 refine U 20000000 ?_
 refine aw (bg 1 (fl [.c (.int .i64 who.1),ap who.2.1,ap who.2.2,ap [],.c (.int .i64 us),.c (.int .i64 du),ua ts]) ?_ ?_)
 exact sb
 refine U 5 ?_
 dsimp only [set_cons_zero,set_cons_succ,cons_append,nil_append,length_cons,length_nil,Nat.zero_add,Nat.reduceAdd]
 refine U 16 ?_
 refine aw (aN 1 (hL n) ?_)
 refine U 75 ?_
 dsimp only [set_cons_zero,set_cons_succ,cons_append,nil_append,length_cons,length_nil,Nat.zero_add,Nat.reduceAdd]
 refine U 16 ?_
 refine aw (aN 1 (hN n) ?_)
 refine U 51 ?_
 dsimp only [set_cons_zero,set_cons_succ,cons_append,nil_append,length_cons,length_nil,Nat.zero_add,Nat.reduceAdd]
 refine U 550000016 ?_;refine an (fun h62=>?_) fun h62=>?_
 ·refine eA ?_;refine jq (au (n:=7) rfl ue Dz rfl rfl) ?_;refine U 1 ?_
  refine aw (bn 7 ?_)
  refine U 51 ?_
  refine jR (l9 (eN (hres:=di rfl (f5 7) bo) (hv:=?_)))
  rw [show tC KE (who,bJ id,us,du,ts)=(Dy,KE) by unfold tC;rw [jK]]
  exact cT (uw fun j hj=>by rcases j with _|_|_|_|_|_|_|j<;>first|exact Z|exact aa.nilS' rfl|omega) Z
 refine U 810 ?_
 have hz:KE=0:=by omega
 have hfq:tC KE (who,bJ id,us,du,ts)=if cl (who,bJ id,us,du,ts)=true then ((who,bJ id,us,du,ts),0) else (Dy,4):=by unfold tC;rw [Zz hz]
 refine U 16 ?_
 refine aq (ak hM ?_)
 refine U 5000000165119009001 ?_
 refine aw (bg 1 (BI (who,(if id.length=16 then bJ id else []),us,du,ts)) ?_ ?_)
 exact sb
 refine U 15000001675 ?_;refine aH 45 (fun g67=>?_) fun g67=>?_
 ·refine U 790005100000000444 ?_;refine lQ (.rd 0 (.rd 1 (.one 2 (.rd 3 .done)))) ?_;refine jy (au (n:=7) rfl ue Dz rfl rfl) ?_;refine jy (cK 3) ?_
  refine lP (bn 7 ?_)
  refine U 8700000400000 ?_
  refine jR (l9 (eN (hres:=di rfl (f5 7) bo) (hv:=?_)))
  have hr:cl (who,bJ id,us,du,ts)=false:=by
   by_cases e:id.length=16
   ·simp_all
   exact hno e
  rw [hfq,hr]
  exact cT (uw fun j hj=>by rcases j with _|_|_|_|_|_|_|j<;>first|exact Z|exact aa.nilS' rfl|omega) (aa.errN rfl)
 refine kj (bD 7) ?_
 refine aq (ak hQ ?_ (ho:=rfl) (he:=(.cons (se rfl (aa.agg rfl (fun j hj=>aa.of_eq (by rw [Nat.zero_add])))) .nil)))
 refine U 550030 ?_;refine an (fun h67=>?_) fun h67=>?_
 ·refine ia ?_;refine lQ (.rd 0 (.rd 1 (.one 2 (.rd 3 .done)))) ?_;refine jy (au (n:=7) rfl ue Dz rfl rfl) ?_;refine jy (cK 3) ?_
  refine lP (bn 7 ?_)
  refine U 8700000400000 ?_
  refine jR (l9 (eN (hres:=di rfl (f5 7) bo) (hv:=?_)))
  have hr:cl (who,bJ id,us,du,ts)=false:=by
   by_cases e:id.length=16
   ·simp_all
   exact hno e
  rw [hfq,hr]
  exact cT (uw fun j hj=>by rcases j with _|_|_|_|_|_|_|j<;>first|exact Z|exact aa.nilS' rfl|omega) (aa.errN rfl)
 refine U 810 ?_
 have he:id.length=16:=by
  by_cases e:id.length=16
  exact e
  ·simp_all
 have hr:cl (who,bJ id,us,du,ts)=true:=by simp_all
 simp only [he,if_true]
 refine eA ?_;refine kj (bD 7) ?_
 refine aw (bn 7 ?_)
 refine U 51 ?_
 refine jR (eN (hres:=di rfl (f5 7) bo) (hv:=?_))
 rw [hfq,hr,Zz rfl]
 exact cT Ko aa.nil
theorem zU (b:I) (hb:b.length≤90000):cd gs prog 19 [bc b] (.tup 2 (fl [lg (iS b).1,.err (iS b).2])):=by
 have B:=XO hb
 have n1:=kS B.m1
 have n2:=kS B.m2
 have n3:=kS B.m3
 have n4:=kS B.m4
 have h:=MN b (zV (gs:=gs) b O) (fun n=>pQ (gs:=gs) n [b] (aR b).2 48 (by simp) (by show b.length≤_;omega)) (fun n=>QE (gs:=gs) (n:=n) (l:=oQ b) (k:=ub b) mW rfl ⟨B.l1.1,by have:=B.l1.2;omega⟩ B.m1)
  (fun n=>Hz (gs:=gs) (n:=n) (l:=(g2 b).1.1) (k:=(g2 b).1.2) 16 16 ⟨B.l2.1,by have:=B.l2.2;omega⟩ O) (fun n=>VG (gs:=gs) n (g3 b).1.1 (g3 b).1.2 ⟨B.l3.1,by have:=B.l3.2;omega⟩ O) (fun n=>Sn (gs:=gs) (n:=n) (l:=(g4 b).l) (k:=(g4 b).k) 1 253402300799 ⟨B.l4.1,by have:=B.l4.2;omega⟩ O)
  (fun n=>Q0 (gs:=gs) (f:=63) (by kernel_rfl) n (g5 b).1.1 (g5 b).1.2 48 8 vo ⟨B.l5.1,by have:=B.l5.2;omega⟩ (FX B.m5) (fun l k h1 h2 _=>LR n l k ⟨h1.1,by omega⟩ (by have:=wy l;omega))) (fun n=>lO (gs:=gs) n (g6 b).1 (g6 b).2 ⟨B.l6.1,by have:=B.l6.2;omega⟩) (fun n=>EG (gs:=gs) n (bm (g6 b).1 (g6 b).2) (ba (g6 b).1 (g6 b).2) ⟨B.l7.1,by have:=B.l7.2;omega⟩)
 have e:tC (nB (bm (g6 b).1 (g6 b).2) (ba (g6 b).1 (g6 b).2)) ((g2 b).2.who,bJ (g3 b).2.b,(g4 b).v.n,(g5 b).2.n,(if (g6 b).2=0 then Bn (g5 b).1.1 (g5 b).1.2 else []))=iS b:=by
  unfold iS
  by_cases hz:gK b=0
  ·rw [Zz (XA hz)];rfl
  ·show tC (gK b) _=tC (gK b) _
   unfold tC
   rw [Zy hz,Zy hz]
 rw [← e]
 exact h
end
end
section
open Go.RowKit Cal
theorem Je (l m:Zx):cd gs prog 36 [ua l,ua m] (.c (.bool (decide (l=m)))):=by
 refine fF 0 rfl fun hlen=>?_;refine fF 1 rfl fun hlen2=>?_;refine ae 26 func36 fun _ _ _ _=>?_;refine U 52313167516 ?_;refine an (fun h158=>?_) fun h158=>?_
 ·refine U 800030007000516 ?_;refine cB ?_
  exact (aex (fun e=>by subst e;omega)).symm
 refine U 20513167810 ?_
 have hl:l.length=m.length:=by omega
 refine ar (α:=Nat) [4,5,13,14,15,16,17,18,19,20,21,22,23,24,25] (fun i=>[(13,.c (.int .i64 (i:Nat)))]) (fun _=>[]) (fun i=>i≤l.length∧∀ j,j<i→l.getD j []=m.getD j []) (fun i=>l.length-i) (0) ?_ (fun _=>rfl) ?_ ?_ ?_
 exact ⟨ZL _,fun j hj=>absurd hj (ZO j)⟩
 ·(repeat (first|exact bh.nil|refine bh.cons Z ?_))
 ·(repeat (exact aD.nil))
 ·rintro i ⟨(hi:i≤l.length),he⟩
  refine U 7526 ?_;refine aaa (fun h161=>?_) fun h161=>?_
  ·refine U 8000700051684000200020006000 ?_;refine cB ?_
   refine (abx (bgx hl fun j h1 h2=>?_)).symm
   have:=he j O
   simpa [List.getD,h1,h2] using this
  refine U 75116207810 ?_;refine dQ (.rd 0 (.rd 1 (.rd 2 (.rd 3 (.rd 4 (.rd 5 (.rd 6 (.rd 7 (.rd 8 .done))))))))) ?_;refine U 7000090000707070000900007070 ?_;refine aJ zh ?_;refine U 880 ?_;refine an (fun h162=>?_) fun h162=>?_
  ·refine U 8000300050003000300050007000516 ?_;refine cB ?_
   exact (aex (fun e=>by subst e;exact h162 rfl)).symm
  refine U 8519200840010 ?_;refine am (i+1) ?_ ?_
  ·exact ⟨by omega,fun j hj=>by
    by_cases e:j=i
    ·subst e;simpa using h162
    exact he j O⟩
  show l.length-(i+1)<l.length-i;omega
theorem xB {a b:Q5}:a=b↔(a.1.1=b.1.1∧a.1.2.1=b.1.2.1∧a.1.2.2=b.1.2.2)∧a.2.1=b.2.1∧a.2.2.1=b.2.2.1∧a.2.2.2.1=b.2.2.2.1∧a.2.2.2.2=b.2.2.2.2:=by
 have ⟨⟨a1,a2,a3⟩,a4,a5,a6,a7⟩:=a
 have ⟨⟨b1,b2,b3⟩,b4,b5,b6,b7⟩:=b
 simp [and_assoc]
theorem pa {a b:I}:(⟨a.toArray⟩:ByteArray)=⟨b.toArray⟩↔a=b:=⟨fun h=>cPx (cMx h),fun h=>by rw [h]⟩
theorem FA (a b:Q5):cd gs prog 13 [lg a,lg b] (.c (.bool (decide (a=b)))):=by
 refine ae 38 func13 fun _ _ _ _=>?_;refine eA ?_
 refine aq (ee 7 fun p1=>?_)
 refine aq (ee 7 fun p2=>?_)
 refine U 651 ?_;refine jq (en 0 3 true) ?_;refine kj (bD 3) ?_;refine jq (en 0 3 true) ?_;refine kj (bD 3) ?_;refine jq (Dw rfl rfl rfl underlying31 (by kernel_rfl) (by kernel_rfl) (.int underlying3 jD rfl rfl (.str underlying9 jD rfl rfl (.str underlying9 jD rfl rfl .nil))) rfl) ?_;refine U 1 ?_;refine aH 10 (fun g95=>?_) fun g95=>?_
 rotate_left
 ·refine U 800070005150044444150044444150044444150044444 ?_;refine cB ?_
  rw [show decide (a=b)=decide ((a.1.1=b.1.1∧a.1.2.1=b.1.2.1∧a.1.2.2=b.1.2.2)∧a.2.1=b.2.1∧a.2.2.1=b.2.2.1∧a.2.2.2.1=b.2.2.2.1∧a.2.2.2.2=b.2.2.2.2) from decide_eq_decide.2 xB]
  simp only [pa,c0x] at *
  (simp_all;done)
 refine U 110000000060000505000000505000000 ?_;refine aH 17 (fun g95_2=>?_) fun g95_2=>?_
 rotate_left
 ·refine U 800070005150044444150044444150044444 ?_;refine cB ?_
  rw [show decide (a=b)=decide ((a.1.1=b.1.1∧a.1.2.1=b.1.2.1∧a.1.2.2=b.1.2.2)∧a.2.1=b.2.1∧a.2.2.1=b.2.2.1∧a.2.2.2.1=b.2.2.2.1∧a.2.2.2.2=b.2.2.2.2) from decide_eq_decide.2 xB]
  simp only [pa,c0x] at *
  (simp_all;done)
 refine U 11000000002507000000507000000 ?_;refine aH 24 (fun g95_3=>?_) fun g95_3=>?_
 rotate_left
 ·refine U 800070005150044444150044444 ?_;refine cB ?_
  rw [show decide (a=b)=decide ((a.1.1=b.1.1∧a.1.2.1=b.1.2.1∧a.1.2.2=b.1.2.2)∧a.2.1=b.2.1∧a.2.2.1=b.2.2.1∧a.2.2.2.1=b.2.2.2.1∧a.2.2.2.2=b.2.2.2.2) from decide_eq_decide.2 xB]
  simp only [pa,c0x] at *
  (simp_all;done)
 refine U 11000000002506000000506000000 ?_;refine aH 31 (fun g95_4=>?_) fun g95_4=>?_
 ·refine U 50200000005020000000 ?_
  refine aq (ak (Je a.2.2.2.2 b.2.2.2.2) ?_)
  refine U 8000700051100000000 ?_;refine cB ?_
  rw [show decide (a=b)=decide ((a.1.1=b.1.1∧a.1.2.1=b.1.2.1∧a.1.2.2=b.1.2.2)∧a.2.1=b.2.1∧a.2.2.1=b.2.2.1∧a.2.2.2.1=b.2.2.2.1∧a.2.2.2.2=b.2.2.2.2) from decide_eq_decide.2 xB]
  simp only [pa,c0x] at *
  (simp_all;done)
 refine U 800070005150044444 ?_;refine cB ?_
 rw [show decide (a=b)=decide ((a.1.1=b.1.1∧a.1.2.1=b.1.2.1∧a.1.2.2=b.1.2.2)∧a.2.1=b.2.1∧a.2.2.1=b.2.2.1∧a.2.2.2.1=b.2.2.2.1∧a.2.2.2.2=b.2.2.2.2) from decide_eq_decide.2 xB]
 simp only [pa,c0x] at *
 (simp_all;done)
theorem zO (q:Q5):cd gs prog 18 [lg q,lg q] (.c (.bool true)):=by
 refine ae 38 func18 fun _ _ _ _=>?_;refine eA ?_
 refine aq (ee 7 fun p1=>?_)
 refine aq (ee 7 fun p2=>?_)
 refine U 651 ?_;refine jq (en 0 3 true) ?_;refine kj (bD 3) ?_;refine jq (en 0 3 true) ?_;refine kj (bD 3) ?_;refine jq (Dw rfl rfl rfl underlying31 (by kernel_rfl) (by kernel_rfl) (.int underlying3 jD rfl rfl (.str underlying9 jD rfl rfl (.str underlying9 jD rfl rfl .nil))) rfl) ?_;refine U 1 ?_;refine aH 10 (fun g117=>?_) fun g117=>?_
 rotate_left
 ·refine U 800070005150044444150044444150044444150044444 ?_;refine cB ?_
  (simp_all;done)
 refine U 110000000060000505000000505000000 ?_;refine aH 17 (fun g117_2=>?_) fun g117_2=>?_
 rotate_left
 ·refine U 800070005150044444150044444150044444 ?_;refine cB ?_
  (simp_all;done)
 refine U 11000000002507000000507000000 ?_;refine aH 24 (fun g117_3=>?_) fun g117_3=>?_
 rotate_left
 ·refine U 800070005150044444150044444 ?_;refine cB ?_
  (simp_all;done)
 refine U 11000000002506000000506000000 ?_;refine aH 31 (fun g117_4=>?_) fun g117_4=>?_
 ·refine U 50200000005020000000 ?_
  refine aq (ak (VJ q.2.2.2.2) ?_)
  refine U 8000700051100000000 ?_;refine cB ?_
  rfl
 refine U 800070005150044444 ?_;refine cB ?_
 (simp_all;done)
end
theorem mE {k:IntKind} {a:Nat} (h:Be k (a:Nat)):(BitVec.ofInt k.bits ((a:Nat):Int)).toNat=a:=by
 cases k<;>simp only [Be] at h<;>simp [IntKind.bits]<;>omega
def YY:IntKind→Nat|.i64=>63|.u64=>64|.i32=>31|.u32=>32|.i16=>15|.u16=>16|.i8=>7|.u8=>8
theorem dJ {k:IntKind} {a:Nat}:Be k (a:Nat)↔a<2 ^ YY k:=by
 cases k<;>simp only [Be,YY]<;>omega
section
variable {P:Program} {G:Gh} {o:Oper} {s:AS} {t u:TypeId} {x y:Operand} {k k':IntKind} {a b n:Nat}
theorem dc (ho:o.op=.binOp .xor t x y u) (hx:s.eval x=.c (.int k (a:Nat))) (hy:s.eval y=.c (.int k (b:Nat))) (ha:Be k (a:Nat)) (hb:Be k (b:Nat)):cj P G o s (.c (.int k ((a ^^^ b:Nat):Int))) :=
 UA ho hx hy _ (by rw [BitVec.toNat_xor,mE ha,mE hb];exact cU (dJ.2 (Nat.xor_lt_two_pow (dJ.1 ha) (dJ.1 hb))))
theorem nT (ho:o.op=.binOp .or t x y u) (hx:s.eval x=.c (.int k (a:Nat))) (hy:s.eval y=.c (.int k (b:Nat))) (ha:Be k (a:Nat)) (hb:Be k (b:Nat)):cj P G o s (.c (.int k ((a ||| b:Nat):Int))) :=
 xA ho hx hy _ (by rw [BitVec.toNat_or,mE ha,mE hb];exact cU (dJ.2 (Nat.or_lt_two_pow (dJ.1 ha) (dJ.1 hb))))
theorem lh (ho:o.op=.binOp .and t x y u) (hx:s.eval x=.c (.int k (a:Nat))) (hy:s.eval y=.c (.int k (b:Nat))) (ha:Be k (a:Nat)) (hb:Be k (b:Nat)):cj P G o s (.c (.int k ((a &&& b:Nat):Int))) :=
 mQ ho hx hy _ (by rw [BitVec.toNat_and,mE ha,mE hb];exact cU (dJ.2 (bPx Nat.and_le_left (dJ.1 ha))))
theorem jg (ho:o.op=.binOp .shr t x y u) (hx:s.eval x=.c (.int k (a:Nat))) (hy:s.eval y=.c (.int k' (n:Nat))) (hn:n≤k.bits):cj P G o s (.c (.int k ((a >>> n:Nat):Int))) :=
 gP ho hx hy O _ (by
  rw [show min ((n:Nat):Int).toNat k.bits=n by omega,aIx]
  rw [aix _ (by exact Int.pow_nonneg jD)]
  norm_cast)
theorem BL (ho:o.op=.binOp .shl t x y u) (hx:s.eval x=.c (.int k (a:Nat))) (hy:s.eval y=.c (.int k' (n:Nat))) (hn:n≤k.bits) (hr:Be k ((a <<< n:Nat):Int)):cj P G o s (.c (.int k ((a <<< n:Nat):Int))) :=
 jh ho hx hy O _ (by
  rw [show min ((n:Nat):Int).toNat k.bits=n by omega]
  rw [bix] at hr ⊢
  have e:((a:Nat):Int) * 2 ^ n=((a * 2 ^ n:Nat):Int):=by norm_cast
  rw [e]
  exact cU hr)
theorem Rb (ho:o.op=.binOp .shl t x y u) (hx:s.eval x=.c (.int .u32 (a:Nat))) (hy:s.eval y=.c (.int k' (n:Nat))) (hn:n≤32):cj P G o s (.c (.int .u32 (((a <<< n) % 4294967296:Nat):Int))) :=
 jh ho hx hy O _ (by
  rw [show min ((n:Nat):Int).toNat IntKind.u32.bits=n by show min _ 32=n;omega,bix]
  have e:((a:Nat):Int) * 2 ^ n=((a * 2 ^ n:Nat):Int):=by norm_cast
  rw [e,IntKind.wrap_u32]
  generalize a * 2 ^ n=X
  omega)
theorem fw (ho:o.op=.binOp .add t x y u) (hx:s.eval x=.c (.int .u32 (a:Nat))) (hy:s.eval y=.c (.int .u32 (b:Nat))):cj P G o s (.c (.int .u32 (((a+b) % 4294967296:Nat):Int))) :=
 BN ho hx hy _ (by rw [IntKind.wrap_u32];omega)
end
def jj:Nat:=4294967296
def dx (x n:Nat):Nat:=x >>> n ||| (x <<< (32-n)) % jj
def od (x:Nat):Nat:=4294967295-x
theorem DL {x:Nat} (h:x<jj) (i:Nat):(od x).testBit i=(decide (i<32) && !x.testBit i):=by
 have e:od x=2 ^ 32-(x+1):=by unfold od;show 4294967295-x=4294967296-(x+1);omega
 rw [e]
 exact Nat.testBit_two_pow_sub_succ h i
theorem Vw {x:Nat} (h:x<jj) {i:Nat} (hi:32≤i):x.testBit i=false:=Nat.testBit_lt_two_pow (Z4 (m:=2 ^ 32) h (apx jD hi))
theorem Lb {e f g:Nat} (he:e<jj) (hf:f<jj) (hg:g<jj):(e &&& f) ^^^ (od e &&& g)=(e &&& f) ||| (od e &&& g):=by
 refine cnx fun i=>?_
 simp only [cSx,Nat.testBit_or,Nat.testBit_and,DL he]
 cases e.testBit i<;>cases f.testBit i<;>cases g.testBit i<;>simp
theorem RT (a b c:Nat):(a &&& b) ^^^ (a &&& c) ^^^ (b &&& c)=(a &&& b) ||| (a &&& c) ||| (b &&& c):=by
 refine cnx fun i=>?_
 simp only [cSx,Nat.testBit_or,Nat.testBit_and]
 cases a.testBit i<;>cases b.testBit i<;>cases c.testBit i<;>rfl
theorem vz {x y:Nat} (hx:x<jj) (hy:y<jj):x ||| y<jj:=Nat.or_lt_two_pow (n:=32) hx hy
theorem gI {x y:Nat} (hx:x<jj) (hy:y<jj):x ^^^ y<jj:=Nat.xor_lt_two_pow (n:=32) hx hy
theorem fD {x y:Nat} (hx:x<jj):x &&& y<jj:=bPx Nat.and_le_left hx
theorem nN {x n:Nat} (hx:x<jj):x >>> n<jj:=by rw [aIx];exact bPx (crx _ _) hx
theorem aX {x n:Nat} (hx:x<jj):dx x n<jj:=vz (nN hx) (aNx _ jD)
theorem not_lt (x:Nat):od x<jj:=by unfold od jj;omega
def Mp (x:Nat):Nat:=dx x 7 ^^^ dx x 18 ^^^ x >>> 3
def Mo (x:Nat):Nat:=dx x 17 ^^^ dx x 19 ^^^ x >>> 10
def QC (x:Nat):Nat:=dx x 2 ^^^ dx x 13 ^^^ dx x 22
def QB (x:Nat):Nat:=dx x 6 ^^^ dx x 11 ^^^ dx x 25
def Lw (b:I) (p:Nat):Nat:=(b.getD p 0).toNat * 16777216+(b.getD (p+1) 0).toNat * 65536+(b.getD (p+2) 0).toNat * 256+(b.getD (p+3) 0).toNat
def vA (w:List Nat) (i:Nat):Nat:=(w.getD (i-16) 0+Mp (w.getD (i-15) 0)+w.getD (i-7) 0+Mo (w.getD (i-2) 0)) % jj
def aG (b:I):Nat→List Nat
 | 0=>[]
 | i+1=>aG b i++[if i<16 then Lw b (4 * i) else vA (aG b i) i]
def cS (v:List Nat) (i:Nat):Nat:=v.getD i 0
def tM (v:List Nat) (k w:Nat):Nat:=cS v 7+QB (cS v 4)+((cS v 4 &&& cS v 5) ||| (od (cS v 4) &&& cS v 6))+k+w
def uM (v:List Nat):Nat:=QC (cS v 0)+((cS v 0 &&& cS v 1) ||| (cS v 0 &&& cS v 2) ||| (cS v 1 &&& cS v 2))
def pm (v:List Nat) (k w:Nat):List Nat:=[(tM v k w+uM v) % jj,cS v 0,cS v 1,cS v 2,(cS v 3+tM v k w) % jj,cS v 4,cS v 5,cS v 6]
def dY (h:List Nat) (b:I):Nat→List Nat
 | 0=>h
 | i+1=>pm (dY h b i) (kL.getD i 0) ((aG b 64).getD i 0)
def mh (h:List Nat) (b:I):List Nat:=(List.range 8).map fun i=>(cS h i+cS (dY h b 64) i) % jj
def eM (h:List Nat) (b:I):Nat→List Nat
 | 0=>h
 | j+1=>mh (eM h b j) ((b.drop (64 * j)).take 64)
def We (n:Nat):I:=(List.range 8).map fun i=>UInt8.ofNat (n >>> (8 * (7-i)))
def rV (n:Nat):I:=128::(List.replicate ((119-n % 64) % 64) 0++We (8 * n))
def xG (h:List Nat):I:=(h.map fun w=>[UInt8.ofNat (w >>> 24),UInt8.ofNat (w >>> 16),UInt8.ofNat (w >>> 8),UInt8.ofNat w]).flatten
def iw (b:I):I:=xG (eM firstL (b++rV b.length) ((b++rV b.length).length / 64))
theorem Nh (n:Nat):(n+(rV n).length) % 64=0:=by
 unfold rV We
 simp only [List.length_cons,ZD,bxx,axx,List.length_range]
 omega
theorem iH (b:I):∀ i,(aG b i).length=i
 | 0=>rfl
 | i+1=>by show (aG b i++[_]).length=_;rw [ZD,iH b i];rfl
theorem rJ (b:I) {i j:Nat} (h:i<j):(aG b j).getD i 0=if i<16 then Lw b (4 * i) else vA (aG b i) i:=by
 induction j with
 | zero=>omega
 | succ j ih =>
  show (aG b j++[_]).getD i 0=_
  have hl:=iH b j
  by_cases e:i=j
  ·subst e
   simp [List.getD,hl]
  ·rw [← ih O]
   simp [List.getD,ZF (show i<(aG b j).length by omega)]
theorem GN (b:I) (p:Nat):Lw b p<jj:=by
 have h0:=(b.getD p 0).toNat_lt
 have h1:=(b.getD (p+1) 0).toNat_lt
 have h2:=(b.getD (p+2) 0).toNat_lt
 have h3:=(b.getD (p+3) 0).toNat_lt
 unfold Lw jj
 omega
theorem zL (b:I) {i j:Nat} (h:i<j):(aG b j).getD i 0<jj:=by
 rw [rJ b h]
 split
 exact GN _ _
 exact aNx _ jD
def ju (h:List Nat):Prop:=h.length=8∧∀ i,cS h i<jj
theorem mg:ju firstL:=⟨rfl,fun i=>by
 rcases i with _|_|_|_|_|_|_|_|i
 all_goals first|(show (_:Nat)<4294967296;decide)|(show (0:Nat)<4294967296;decide)⟩
theorem CO {v:List Nat} (h:ju v) (k w:Nat):ju (pm v k w):=⟨rfl,fun i=>by
 have ⟨_,hv⟩:=h
 rcases i with _|_|_|_|_|_|_|_|i
 exact aNx _ jD
 exact hv 0
 exact hv 1
 exact hv 2
 exact aNx _ jD
 exact hv 4
 exact hv 5
 exact hv 6
 ·show (0:Nat)<4294967296;decide⟩
theorem nI {v:List Nat} (h:ju v) (b:I):∀ i,ju (dY v b i)
 | 0=>h
 | i+1=>CO (nI h b i) _ _
theorem Fk {v:List Nat} (b:I):ju (mh v b):=⟨by simp [mh],fun i=>by
 unfold mh cS
 by_cases hi:i<8
 ·simp only [List.getD,aBx,bEx hi,bzx,asx]
  exact aNx _ jD
 ·rw [ZB,Z0 (by simp;omega)]
  decide⟩
theorem la {v:List Nat} (h:ju v) (b:I):∀ j,ju (eM v b j)
 | 0=>h
 | j+1=>Fk _
theorem yG (v:List Nat) (a b:I):∀ j,64 * j≤a.length→eM v (a++b) j=eM v a j
 | 0,_=>rfl
 | j+1,h=>by
  show mh (eM v (a++b) j) (((a++b).drop (64 * j)).take 64)=mh (eM v a j) ((a.drop (64 * j)).take 64)
  rw [yG v a b j O,bkx O,bKx (by rw [ZI];omega)]
def fo (m:I):List Nat:=eM firstL m (m.length / 64)
def bV (m:I):I:=m.drop (64 * (m.length / 64))
theorem rO (m:I):(bV m).length=m.length % 64:=by unfold bV;rw [ZI];omega
theorem QL (m:I):iw m=xG (fo (m++rV m.length)):=rfl
theorem RF {h:List Nat} (hw:ju h):(xG h).length=32:=by
 have ⟨hl,_⟩:=hw
 rcases h with _|⟨a,_|⟨b,_|⟨c,_|⟨d,_|⟨e,_|⟨f,_|⟨g,_|⟨i,_|⟨j,r⟩⟩⟩⟩⟩⟩⟩⟩⟩<;>first|rfl|(simp at hl;done)|(simp at hl)
theorem qh (m:I):(iw m).length=32:=RF (la mg _ _)
def rX (l:List Nat) (i:Nat):CV:=.c (.int .i64 ((cS l i:Nat):Int))
def YX (l:List Nat):CV:=.rs 1 l.length fun i _=>rX l i
theorem BF:Cy 1 rX:=fun l l2 j hj=>by
 simp only [rX,cS,ZB]
 split
 ·rw [ZF O]
 ·rw [ZR O,ZS]
theorem OZ (L:List Nat) (j:Nat) (hj:j<L.length):aa (fl (L.map fun z:Nat=>.c (.int .i64 (z:Int))) j) (rX L j):=aa.of_eq (by
 rw [dK]
 simp [List.getD,hj,rX,cS])
theorem OF {cs:List CV} {l2:List Nat} (h:o6 cs (l2.map fun c:Nat=>.c (.int .i64 (c:Int)))):∀ j,j<l2.length * 1→aa (fl cs (0+j)) (rX l2 j):=fun j hj=>by
 rw [Nat.zero_add]
 exact ((wI h).2 j).trans (OZ l2 j O)
theorem Bo {G:Gh} {s:AS} (d:Nat) {i n N:Nat} {g:Option Nat} {F:Nat→CV} (l:List Nat) (hl:look s.env s.b d=.os i g 0 n 1) (hH:s.H[i]?=some (g,.frz N F)) (hn:n=l.length) (hN:Nat.ble n N=true) (he:∀ j,j<l.length→aa (F j) (rX l j)) :
  cJ G s ⟨(d,YX l)::s.env,s.b,s.H⟩:=by
 subst hn
 have hN:=ZN hN
 exact iG d (fun a _=>rX l a) hl hH O (fun a b ha hb=>by
  have:=he a ha
  rwa [show 0+(a * 1+b)=a by omega])
theorem E9 {z:Int} {a:Nat} (h:z=(a:Nat)) (ha:a<9223372036854775808):IntKind.i64.wrap (BitVec.ofInt (IntKind.bits .i64) z &&& BitVec.ofInt (IntKind.bits .i64) 4294967295).toNat=((a % 4294967296:Nat):Int):=by
 subst h
 have h1:(BitVec.ofInt (IntKind.bits .i64) ((a:Nat):Int)).toNat=a:=mE (k:=.i64) (dJ.2 ha)
 have h2:(BitVec.ofInt (IntKind.bits .i64) ((4294967295:Nat):Int)).toNat=4294967295:=mE (k:=.i64) (dJ.2 jD)
 have h2:(BitVec.ofInt (IntKind.bits .i64) (4294967295:Int)).toNat=4294967295:=h2
 rw [BitVec.toNat_and,h1,h2,show (4294967295:Nat)=2 ^ 32-1 from rfl,bIx]
 exact cU (dJ.2 (bPx (Nat.mod_le _ _) ha))
theorem Br {s:Int} (a n:Nat) (h:s=(n:Nat)) (hn:n≤64):((a:Nat):Int).fdiv (2 ^ min s.toNat (IntKind.bits .i64))=((a >>> n:Nat):Int):=by
 subst h
 have e1:min ((n:Nat):Int).toNat (IntKind.bits .i64)=n:=by show min _ 64=_;omega
 have e2:(2:Int) ^ n=((2 ^ n:Nat):Int):=by simp
 rw [e1,aix _ (dax (Int.pow_pos jD)),e2,← b6x,aIx]
theorem wt {s:Int} (a n:Nat) (h:s=(n:Nat)) (hn:n≤64) (ha:a * 2 ^ n<9223372036854775808):IntKind.i64.wrap (((a:Nat):Int) * 2 ^ min s.toNat (IntKind.bits .i64))=((a * 2 ^ n:Nat):Int):=by
 subst h
 have e1:min ((n:Nat):Int).toNat (IntKind.bits .i64)=n:=by show min _ 64=_;omega
 have e2:(2:Int) ^ n=((2 ^ n:Nat):Int):=by simp
 rw [e1,e2,← cRx]
 exact cU (dJ.2 ha)
theorem kg (x n:Nat) (hx:x<jj) (h1:1≤n) (hn:n≤32):cd gs prog 232 [.c (.int .i64 (x:Nat)),.c (.int .i64 (n:Nat))] (.c (.int .i64 ((dx x n:Nat):Int))):=by
 have hx':x<4294967296:=hx
 have h2:x * 2 ^ (32-n)<9223372036854775808:=by
  have h3:2 ^ (32-n)≤2 ^ 31:=apx jD O
  exact Nat.mul_lt_mul_of_lt_of_le hx' h3 jD
 have b1:Be .i64 ((x >>> n:Nat):Int):=dJ.2 (Z4 (nN hx) jD)
 have b2:Be .i64 ((x * 2 ^ (32-n) % 4294967296:Nat):Int):=dJ.2 (Z4 (aNx _ jD) jD)
 obtain ⟨y,hy⟩:∃ y,y=x * 2 ^ (32-n):=⟨_,rfl⟩
 have e1:=wt (s:=32-(n:Int)) x (32-n) O O h2
 rw [← hy] at e1 h2 b2
 refine ae 16 func232 fun _ _ _ _=>?_;refine U 116516 ?_;refine jq (wg .i64 .u64) ?_;refine jq (gP rfl rfl rfl (by omega) (((x >>> n:Nat):Int)) ((Br x n rfl O))) ?_;refine U 911 ?_;refine jq (wg .i64 .u64) ?_;refine jq (jh rfl rfl rfl (by omega) (((y:Nat):Int)) (e1)) ?_;refine jq (mQ rfl rfl rfl (((y % 4294967296:Nat):Int)) ((E9 rfl h2))) ?_;refine jq (nT rfl rfl rfl b1 b2) ?_;refine U 8000700051 ?_
 unfold dx jj;rw [bix,← hy];exact Z
theorem O3:AC gs prog 231 [] [] (ss 8 1 8 (rX firstL)):=by
 refine ae 2 func231 fun _ _ _ _=>?_;refine U 6516 ?_
 refine aq (aM 8 1 rm fun p1=>?_)
 refine U 700051 ?_
 exact nA 0 (.inl rfl) (aK rfl (ai rfl)) rfl rfl (ZA _) (fun _=>rfl) sb
theorem LY (j:Nat) (hj:j<64):aa (fl (kL.map fun z:Nat=>.c (.int .i64 (z:Int))) j) (rX kL j):=OZ kL j hj
theorem LZ:AC gs prog 230 [] [] (ss 64 1 64 (rX kL)):=by
 refine ae 2 func230 fun _ _ _ _=>?_;refine U 6516 ?_
 refine aq (aM 64 1 rm fun p1=>?_)
 refine U 700051 ?_
 exact nA 0 (.inl rfl) (aK rfl (ai rfl)) rfl rfl (ZA _) (fun _=>rfl) LY
theorem XQ {n:Nat} (h1:1≤n) (h2:n≤31):IntKind.u64.wrap (BitVec.ofInt IntKind.u64.bits ((18446744073709551616-n:Nat):Int) &&& BitVec.ofInt IntKind.u64.bits 31).toNat=((32-n:Nat):Int):=by
 have e:BitVec.ofInt IntKind.u64.bits 31=BitVec.ofInt IntKind.u64.bits ((31:Nat):Int):=rfl
 rw [e,BitVec.toNat_and,mE (k:=.u64) (by show _∧_;omega),mE (k:=.u64) (by show _∧_;omega)]
 rw [show (31:Nat)=2 ^ 5-1 from rfl,bIx,IntKind.wrap_u64]
 omega
theorem mb {x:Nat} (h:x<jj):Be .u32 (x:Nat):=by unfold jj at h;show _∧_;omega
theorem Ux (x n:Nat) (hx:x<jj) (h1:1≤n) (h2:n≤31):cd gs prog 281 [.c (.int .u32 (x:Nat)),.c (.int .i64 ((0:Int)-(n:Nat)))] (.c (.int .u32 (dx x n:Nat))):=by
 refine ae 17 func281 fun _ _ _ _=>?_;refine U 16516 ?_;refine jq (cC rfl rfl underlying3 underlying35 (((18446744073709551616-n:Nat):Int)) ((by rw [IntKind.wrap_u64];omega))) ?_;refine jq (mQ rfl rfl rfl (((32-n:Nat):Int)) ((XQ h1 h2))) ?_;refine U 11651 ?_;refine jq (Rb rfl rfl rfl O) ?_;refine U 11 ?_;refine jq (Ra rfl rfl rfl (((n:Nat):Int)) ((by rw [IntKind.wrap_u64];omega))) ?_;refine jq (jg rfl rfl rfl (by show n≤32;omega)) ?_;refine jq (nT rfl rfl rfl (mb (aNx _ jD)) (mb (nN hx))) ?_;refine U 51 ?_
 refine jR (eN (hv:=cI (by rw [Nat.or_comm];rfl)))
theorem fh (x n:Nat) (hx:x<jj) (h1:1≤n) (h2:n≤31):cd gs prog 268 [.c (.int .u32 (x:Nat)),.c (.int .i64 (n:Nat))] (.c (.int .u32 (dx x n:Nat))):=by
 refine ae 9 func268 fun _ _ _ _=>?_;refine U 116516 ?_
 first|refine jq (MS rfl rfl _ (cU (k:=.i64) (by show _∧_;(first|omega|decide|(dsimp only at *;omega))))) ?_|refine jq (MS rfl rfl _ rfl) ?_
 refine aq (ak (Ux x n hx h1 h2) ?_)
 refine U 51 ?_
 refine jR (eN (hv:=Z))
def de (off:Nat) (F:Nat→CV) (j:Nat):CV:=if j<off then .top else F (j-off)
theorem lj (off:Nat) (F:Nat→CV) (j:Nat):de off F (off+j)=F j:=by unfold de;rw [jK,aWx]
section
variable {P:Program} {G:Gh} {ops:Array Oper} {o:Oper} {s:AS} {K:AS→Prop} {t u:TypeId} {x y:Operand} {k:IntKind}
theorem F4 {e:TypeId} {z:Value} {i off n m k N by_:Nat} {g:Option Nat} {f h:Nat→CV} (ho:o.op=.call ⟨.builtin .append,#[x,y],#[t,u]⟩) (hx:s.eval x=.os i g off n k) (hH:s.H[i]?=some (g,.blk N f)) (hN:off+n * k≤N)
  (hsrc:rl P G s y k m h) (h1:P.underlying t=some (.slice e)) (hu:dR P u=true) (h5:(P.info? e).map (·.size)=some k) (hz:(P.info? e).map (·.zero)=some (some z)) (hby:(P.info? e).map (·.bytes)=some by_)
  (h63:n+m≤9223372036854775807) (h48:(n+m) * by_≤140737488355328) (hzk:z.cells.size=k)
  (F:Nat→CV) (hF:∀ j,j<(n+m) * k→aa (pV (n * k) (fun j=>f (off+j)) h j) (F j)) (hleaf:∀ j,j<m * k→fO (h j)=true) (hd:bY G o=true)
  (hK:∀ g' off',K (s.with o.dst (.os i g' off' (n+m) k) (s.H.set i (g',.blk (off'+(n+m) * k) (de off' F))))):vn P G o s K:=fun St a w hr Q=>by
 have ⟨info,hi,hs⟩:=ZG.1 h5
 have ⟨info',hi',hz⟩:=ZG.1 hz
 obtain rfl:=Z3 (hi.symm.trans hi')
 have ⟨info',hi',hby⟩:=ZG.1 hby
 obtain rfl:=Z3 (hi.symm.trans hi')
 have ⟨news,hnl,hnr,hrun⟩:=hsrc St a w hr
 have he:=iY hr hx
 have hlen:(n+m) * k=n * k+m * k:=aRx ..
 -- the value's parts
 obtain ⟨base,cap,ev,hle,hcap,hbase⟩:∃ base cap,a.eval x=.slice base n cap∧n≤cap∧cap≤9223372036854775807∧((g=none∧base=none∧cap=0∧n=0)∨∃ b,g=some b∧base=some ⟨b,off,none⟩∧∃ cur t z,w.heap[b]?=some (.cells cur t z)∧off+cap * k≤cur.size):=by
  cases g with
  | none=>have ⟨h1,h2⟩:=he;exact ⟨none,0,by rw [h2,h1],by omega,by omega,.inl ⟨rfl,rfl,rfl,h1⟩⟩
  | some b=>have ⟨cap,h1,h2,h3,h4⟩:=he;exact ⟨_,cap,h1,h2,h3,.inr ⟨b,rfl,rfl,h4⟩⟩
 have hargs:(#[x,y]:Array Operand).map a.eval=#[a.eval x,a.eval y]:=by simp
 have put:∀ {w':World} {v:Value} {c:CV} {H:List (Option Nat×aW)},ax G St ⟨s.env,s.b,H⟩ a w'→aP G.al St w' c v→ax G St (s.with o.dst c H) (a.put o.dst v) w':=fun {w' v c H} h1 h2=>by
  have:=h1.put (dst:=o.dst) (dB hd) h2
  cases ho:o.dst with
  | none=>rw [ho] at this;exact this
  | some d=>rw [ho] at this;exact this
 by_cases hroom:n+m≤cap
 ·-- in place
  rcases hbase with ⟨hg,hb,hc0,hn0⟩|⟨b,hg,hb,cu,tt,zz,hcu,hfit⟩
  ·subst hg hb
   have hm0:m=0:=by omega
   subst hm0
   have hrun':=ic (t:=t) (u:=u) (ty:=o.type) h1 hu hi hs (hrun w rfl).1 (hrun w rfl).2 hroom (base:=none) (w':=w) (fun _ h=>by simp at h) (fun _=>rfl)
   unfold Oper.wp
   rw [eu ho (by rw [hargs,ev];exact hrun')]
   refine ⟨ff.refl _ _,St,fun _ h=>h,_,hK none 0,?_⟩
   have hlt:=(ZC.1 hH).1
   have hmv:ax G St ⟨s.env,s.b,s.H.set i (none,.blk (0+(n+0) * k) (de 0 F))⟩ a w:=by
    refine ⟨hr.df,hr.sz,hr.env,hr.un,hr.s1,hr.s2,hr.s3,?_,hr.sn,hr.sg⟩
    have ⟨fp,hp⟩:=hr.hp
    refine ⟨fp,fun j q r hj=>?_,hp.dis,hp.own,fun j hj=>hp.out j (by simpa using hj)⟩
    by_cases hj2:j=i
    ·subst hj2
     simp [hlt] at hj
     obtain ⟨rfl,rfl⟩:=hj
     exact ⟨by simp [hn0],(hp.rep j none _ hH).2⟩
    ·rw [ZQ (Ne.symm hj2)] at hj
     exact hp.rep j q r hj
   exact put hmv ⟨by omega,by rw [hn0,hc0]⟩
  ·subst hg hb
   have ⟨fp,hp⟩:=hr.hp
   obtain ⟨hb0,cur,ty,hh,hle2,hcell⟩:=hp.rep i (some b) _ hH
   have hq:=Z3 (hcu.symm.trans hh)
   injection hq with e1 e2 e3
   have hfit:off+cap * k≤cur.size:=e1 ▸ hfit
   have hfit2:off+n * k+news.length≤cur.size:=by
    have:=aox k hroom
    rw [hlen] at this
    omega
   have hone:∀ v ∈ news,v.oneCell'=true:=fun v hv=>by
    have ⟨j,hj,e⟩:=a6x.1 hv
    have h2:=hnr j O
    rw [show news.getD j undef=v by simp [List.getD,hj,e]] at h2
    exact pH (hleaf j O) h2
   have hst:=run_storeCells_at P b (off+n * k) ty news 0 cur w hh (by simpa using hfit2) hone
   simp only [afx] at hst
   have hrun':=ic (t:=t) (u:=u) (ty:=o.type) h1 hu hi hs (hrun w rfl).1 (hrun w rfl).2 hroom (base:=some ⟨b,off,none⟩) (w':=w.setRow b (cur.toList.take (off+n * k)++news++cur.toList.drop (off+n * k+news.length)).toArray) (fun ad h=>by
    have h:=Z3 h
    subst h
    rw [fE]
    exact hst) (fun h=>by simp at h)
   unfold Oper.wp
   rw [eu ho (by rw [hargs,ev];exact hrun')]
   refine ⟨fun q hq=>setRow_other w b q _ (fun e=>(hp.own i b ((hb0 b).2 rfl)).2.1 (e ▸ hq)),St,fun _ h=>h,_,hK (some b) off,?_⟩
   have hw:=hr.write hH hh (cs:=(cur.toList.take (off+n * k)++news++cur.toList.drop (off+n * k+news.length)).toArray) (by simp;omega) (n':=off+(n+m) * k) (f':=de off F) (by simp;omega) (fun j hj=>by
    unfold de
    by_cases h0:j<off
    ·rw [Zz h0];trivial
    rw [Zy h0]
    refine hF (j-off) O _ _ _ _ ?_
    rw [rL cur news (off+n * k) hfit2]
    unfold pV
    by_cases h3:j-off<n * k
    ·rw [Zz h3,jK]
     dsimp only
     rw [show off+(j-off)=j by omega]
     exact hcell j O
    ·rw [Zy h3,jP,show j-(off+n * k)=j-off-n * k by omega];exact hnr _ O)
   refine put hw ⟨cap,rfl,hroom,hcap,?_⟩
   exact ⟨_,_,_,setRow_heap w b cur _ _ _ hh,by simp;omega⟩
 ·-- a new row
  have hroom:cap<n+m:=by omega
  obtain ⟨olds,hol,hor,horun⟩:Bc P G.al St w (.slice base n cap) k n (fun j=>f (off+j)):=by
   rcases hbase with ⟨hg,hb,hc0,hn0⟩|⟨b,hg,hb,_⟩
   ·subst hb hn0 hc0;exact pd
   ·subst hg hb
    have ⟨_,cur,tt,zz,hh,hle,hc⟩:=tV hr hH
    refine m8 (g:=fun j=>cur.getD (off+j) undef) fun j hj=>⟨?_,hc (off+j) O⟩
    have hlt:off+j<cur.size:=by omega
    rw [cell_of_row w b (off+j) cur tt zz hh];simp [hlt]
  have hrun':=nR (t:=t) (u:=u) (ty:=o.type) h1 hu hi hs hz (fun W hW=>(hrun W hW).1) (fun W hW=>(horun W hW).2) (fun W hW=>(hrun W hW).2) hroom h63 (by rw [hby];exact h48)
  unfold Oper.wp
  rw [eu ho (by rw [hargs,ev];exact hrun')]
  refine ⟨iz hr (co w _),St,fun _ h=>h,_,hK (some w.heap.size) 0,?_⟩
  have hgc:n+m≤grownCap w (n+m) cap e∧grownCap w (n+m) cap e≤9223372036854775807:=by
   have hlt:=aNx (w.tape w.drawn (.appendCap (n+m) cap e)) (show 0<2 ^ 63-(n+m) by omega)
   simp only [grownCap,Question.cut]
   omega
  have hcell0:(w.drew.alloc (.cells (olds.toArray++news.toArray++Builtin.zeroCells z.cells (grownCap w (n+m) cap e-(n+m))) e)).heap[w.heap.size]?=some (.cells (olds.toArray++news.toArray++Builtin.zeroCells z.cells (grownCap w (n+m) cap e-(n+m))) e (0,0)):=heap_alloc_new w.drew _
  have hsize:(olds.toArray++news.toArray++Builtin.zeroCells z.cells (grownCap w (n+m) cap e-(n+m))).size=grownCap w (n+m) cap e * k:=by
   simp [Builtin.zeroCells,hol,hnl,hzk]
   rw [← aRx,← aRx]
   congr 1
   omega
  have hEvo:rc St w (w.drew.alloc (.cells (olds.toArray++news.toArray++Builtin.zeroCells z.cells (grownCap w (n+m) cap e-(n+m))) e)):=rc.of_below (co w _) hr.s3
  have hfr:=hr.fresh (co w _) (ZA _) hcell0 (n:=0+(n+m) * k) (f:=de 0 F) (by rw [hsize,Nat.zero_add];exact aox _ hgc.1) (fun j hj=>by
   refine hF j O _ _ _ _ (aP.evo hEvo (fun _ x=>x) _ _ ?_)
   unfold pV
   rw [BD olds news _ j O,hol]
   by_cases h3:j<n * k
   ·rw [Zz h3,Zz h3];exact hor j h3
   ·rw [Zy h3,Zy h3];exact hnr (j-n * k) O)
  have hkl:=hfr.move ((ZC.1 hH).1)
  refine put hkl ⟨_,rfl,hgc.1,hgc.2,_,_,_,hcell0,?_⟩
  rw [hsize]
  omega
end
section
variable {P:Program} {G:Gh} {o:Oper} {K:AS→Prop} {t u:TypeId} {p q:Operand} {env:List (Nat×CV)} {b0:Nat→CV} {H:List (Option Nat×aW)}
theorem F7 {e:TypeId} {z:Value} {i off N d by_ m:Nat} {g:Option Nat} {h:Nat→CV} {l l2:I} (ho:o.op=.call ⟨.builtin .append,#[p,q],#[t,u]⟩) (hx:(⟨env,b0,H⟩:AS).eval p=.os i g off l.length 1) (hH:H[i]?=some (g,.blk N (de off (aV l)))) (hN:off+l.length≤N)
  (hsrc:rl P G ⟨env,b0,H⟩ q 1 m h) (hm:m=l2.length) (hh:∀ j,j<l2.length→aa (h j) (aV l2 j)) (h1:P.underlying t=some (.slice e)) (hu:dR P u=true) (h5:(P.info? e).map (·.size)=some 1) (hz:(P.info? e).map (·.zero)=some (some z)) (hby:(P.info? e).map (·.bytes)=some by_) (hzk:z.cells.size=1)
  (h63:l.length+l2.length≤9223372036854775807) (h48:(l.length+l2.length) * by_≤140737488355328) (hleaf:∀ j,j<m * 1→fO (h j)=true) (hd:o.dst=some d) (hdN:Nat.blt d G.N=true)
  (hK:∀ g' off',K ⟨(d,.os i g' off' (l++l2).length 1)::env,b0,H.set i (g',.blk (off'+(l++l2).length) (de off' (aV (l++l2))))⟩):vn P G o ⟨env,b0,H⟩ K:=by
 subst hm
 refine F4 ho hx hH O hsrc h1 hu h5 hz hby h63 h48 hzk (aV (l++l2)) (fun j hj=>?_) hleaf (kK hd hdN) (fun g' off'=>?_)
 ·unfold pV
  rw [ZS] at hj ⊢
  split
  ·rename_i h
   dsimp only
   rw [lj]
   refine aa.of_eq ?_
   simp [aV,List.getD,ZF h]
  ·rename_i h
   refine (hh _ O).trans (aa.of_eq ?_)
   simp [aV,List.getD,ZR (chx h)]
 ·rw [dv hd]
  have:=hK g' off'
  rw [ZD] at this
  rw [ZS]
  exact this
theorem KP {e:TypeId} {i off m n l d:Nat} {g:Option Nat} {lo:Option Operand} {x:Operand} (ho:o.op=.slice t x lo none none) (hx:(⟨env,b0,H⟩:AS).eval x=.os i g off n m) (h1:P.underlying t=some (.slice e)) (h5:(P.info? e).map (·.size)=some m)
  (hl:Bd (⟨env,b0,H⟩:AS) 0 lo l) (hln:l≤n) (hd:o.dst=some d) (hN:Nat.blt d G.N=true) (hK:∀ off',(off'=off+l * m∨(l=n∧off'=off))→K ⟨(d,.os i g off' (n-l) m)::env,b0,H⟩):kP P G o ⟨env,b0,H⟩ K:=fun St a w hr Q=>by
 have put:∀ {v:Value} {c:CV},aP G.al St w c v→ax G St ⟨(d,c)::env,b0,H⟩ (a.put o.dst v) w:=fun {v c} h2=>by
  have:=hr.put (dst:=some d) (fun e he=>by obtain rfl:=Z3 he;exact ZN hN) h2
  rw [hd]
  exact this
 by_cases h0:l=0∨l<n
 ·obtain ⟨v,hv,hrep⟩:=zW (G:=G) ho hx h1 h5 hl (bv _ _) hln (ZA _) h0 St a w hr
  unfold Oper.wp
  rw [hv w (ff.refl _ _)]
  exact ⟨Below.refl _ _,St,fun _ h=>h,_,hK _ (.inl rfl),put hrep⟩
 ·have hl2:l=n:=by omega
  have ⟨info,hi',hs⟩:=ZG.1 h5
  have he:=iY hr hx
  cases g with
  | none=>have:=he.1;omega
  | some b =>
   have ⟨cap,e0,h2,h3,cur,ty,z,h4,h6⟩:=he
   have hrun:(execOp a.eval o).run P w=.ok (.value (.slice (if cap=l then some ⟨b,off,none⟩ else some (Addr.add ⟨b,off,none⟩ (l * m))) (n-l) (cap-l))) w:=by
    have hb:∀ is W,(Instr.sliceBounds is n cap (lo.map a.eval) none none).run P W=.ok (l,n,cap) W:=fun is W=>iI hr hl (hi:=none) (bv _ _) hln (ZA _) h2 is W
    refine iO ho ?_
    rw [e0]
    simp [Instr.sliceAt,Instr.slice,underlying,h1,hb,sizeOf,typeInfo,hi',hs]
   unfold Oper.wp
   rw [hrun]
   by_cases hc:cap=l
   ·rw [Zz hc]
    exact ⟨Below.refl _ _,St,fun _ h=>h,_,hK off (.inr ⟨hl2,rfl⟩),put ⟨cap-l,rfl,by omega,by omega,cur,ty,z,h4,by rw [hc,bAx,aKx];omega⟩⟩
   ·rw [Zy hc,fE]
    refine ⟨Below.refl _ _,St,fun _ h=>h,_,hK _ (.inl rfl),put ⟨cap-l,rfl,by omega,by omega,cur,ty,z,h4,?_⟩⟩
    have:l * m+(cap-l) * m=cap * m:=by rw [← aRx];congr 1;omega
    omega
end
def zC (l:List Nat) (j:Nat):CV:=.c (.int .u32 ((l.getD j 0:Nat):Int))
theorem GY {l:List Nat} {i v j:Nat} (hl:l.length=i):aa (fX (zC l) i [.c (.int .u32 ((v:Nat):Int))] j) (zC (l++[v]) j):=by
 rw [db]
 refine aa.of_eq ?_
 by_cases h:j=i
 ·subst h
  rw [Zz (by simp)]
  simp [zC,fl,List.getD,hl]
 ·rw [Zy (by simp;omega)]
  unfold zC
  by_cases h2:j<i
  ·simp [List.getD,ZF (show j<l.length by omega)]
  ·have e1:l[j]?=none:=Z0 O
   have e2:(l++[v])[j]?=none:=Z0 (by simp;omega)
   simp [List.getD,e1,e2]
theorem RL (r:I) (off p:Nat):de off (aV r) (off+p * 1)=.c (.int .u8 (((r.getD p 0).toNat:Nat):Int)):=by rw [lj,ZS];rfl
theorem pg (c:UInt8) {n:Nat} (hn:n≤24):c.toNat <<< n<jj:=by
 have h:=c.toNat_lt
 rw [bix]
 have h2:(2:Nat) ^ n≤2 ^ 24:=apx jD hn
 have h3:c.toNat * 2 ^ n≤255 * 2 ^ 24:=Nat.mul_le_mul O h2
 unfold jj
 omega
theorem XJ (c:UInt8):c.toNat<jj:=by have:=c.toNat_lt;unfold jj;omega
theorem Y8 (a b c d:UInt8):((a.toNat <<< 24 ||| b.toNat <<< 16) ||| c.toNat <<< 8) ||| d.toNat=a.toNat * 16777216+b.toNat * 65536+c.toNat * 256+d.toNat:=by
 have ha:=a.toNat_lt
 have hb:=b.toNat_lt
 have hc:=c.toNat_lt
 have hd:=d.toNat_lt
 rw [Nat.or_assoc,Nat.or_assoc]
 rw [← bLx (show d.toNat<2 ^ 8 by omega)]
 rw [← bLx (show c.toNat <<< 8+d.toNat<2 ^ 16 by rw [bix];omega)]
 rw [← bLx (show b.toNat <<< 16+(c.toNat <<< 8+d.toNat)<2 ^ 24 by rw [bix,bix];omega)]
 simp only [bix]
 omega
theorem VT (r:I) {p:Nat} (h:p+3<64):Lw (r.take 64) p=(r.getD p 0).toNat * 16777216+(r.getD (p+1) 0).toNat * 65536+(r.getD (p+2) 0).toNat * 256+(r.getD (p+3) 0).toNat:=by
 have g:∀ q,q<64→(r.take 64).getD q 0=r.getD q 0:=fun q hq=>by simp [List.getD,hq]
 unfold Lw
 rw [g p O,g (p+1) O,g (p+2) O,g (p+3) O]
theorem IM {b:I} {i v:Nat} (h:i<16) (e:v=Lw b (4 * i)):aG b (i+1)=aG b i++[v]:=by
 show aG b i++[_]=_
 rw [Zz h,e]
theorem IN {b:I} {i v:Nat} (h:¬ i<16) (e:v=vA (aG b i) i):aG b (i+1)=aG b i++[v]:=by
 show aG b i++[_]=_
 rw [Zy h,e]
theorem Wq {z:Value} {n j:Nat} (h:z.cells=Array.replicate n (.int .u32 0)) (hj:j<n):aa (.c (z.cells.getD j undef)) (zC [] j):=aa.of_eq (by rw [h];simp [hj];rfl)
theorem Yw {r b:I} {i:Nat} (hb:b=r.take 64) (h:i<16):(((r.getD (4 * i) 0).toNat <<< 24 ||| (r.getD (4 * i+1) 0).toNat <<< 16) ||| (r.getD (4 * i+2) 0).toNat <<< 8) ||| (r.getD (4 * i+3) 0).toNat=Lw b (4 * i):=by
 rw [hb,VT r O]
 exact Y8 _ _ _ _
theorem YJ (w:List Nat) (i:Nat):(((w.getD (i-16) 0+(dx (w.getD (i-15) 0) 7 ^^^ dx (w.getD (i-15) 0) 18 ^^^ w.getD (i-15) 0 >>> 3)) % 4294967296+w.getD (i-7) 0) % 4294967296+(dx (w.getD (i-2) 0) 17 ^^^ dx (w.getD (i-2) 0) 19 ^^^ w.getD (i-2) 0 >>> 10)) % 4294967296=vA w i:=by
 unfold vA Mp Mo jj
 generalize dx (w.getD (i-15) 0) 7 ^^^ dx (w.getD (i-15) 0) 18 ^^^ w.getD (i-15) 0 >>> 3=a
 generalize dx (w.getD (i-2) 0) 17 ^^^ dx (w.getD (i-2) 0) 19 ^^^ w.getD (i-2) 0 >>> 10=c
 omega
theorem IP (g:Option Nat) (off:Nat) (r:I) (h:64≤r.length) (hr:r.length≤1000000000000):AC gs prog 267 [(g,.blk (off+r.length) (de off (aV r)))] [.os 0 g off 64 1]
  (fun x H'=>x=.agg 64 (zC (aG (r.take 64) 64))∧H'=[(g,.blk (off+r.length) (de off (aV r)))]):=by
 obtain ⟨b,hb⟩:∃ b,b=r.take 64:=⟨_,rfl⟩
 rw [← hb]
 refine ae 86 func267 fun _ _ _ _=>?_;refine eA ?_
 refine aq (dh (n:=64) To rfl fun p1=>?_)
 refine U 65 ?_
 refine aq (dh (n:=64) To rfl fun p2=>?_)
 refine U 2051675 ?_;refine ar (α:=Nat) [4,5,6,7,8,9,10,11,12,13,14,15,16,17,18,19,20,21,22,23,24,25,26,27,28,29,30,31,32,33,34,35,36,37,38,39,40,41,42,43,44,45,46,47,48,49,50,51,52,53,54,55,56,57,58,59,60,61,62,63,64,65,66,67,68,69,70,71,72,73,74,75,76,77,78,79,80,81,82,83,84] (fun i=>[(7,.c (.int .i64 (i:Nat)))]) (fun i=>[(g,.blk (off+r.length) (de off (aV r))),(p1,.blk 64 (fun _=>.top)),(p2,.blk 64 (zC (aG b i)))]) (fun i=>i≤64) (fun i=>64-i) (0) ?_ (fun _=>rfl) ?_ ?_ ?_
 ·simp
 ·(repeat (first|exact bh.nil|refine bh.cons Z ?_))
 exact .same (.blk rfl (fun _ _=>aa.top _) (.blk rfl (fun j hj=>Wq rfl hj) .nil))
 ·rintro i (hi:i≤64)
  refine U 7526 ?_;refine aaa (fun h42=>?_) fun h42=>?_
  ·refine U 684000200020006000 ?_;refine kj (bD 64) ?_
   refine aw (bg 64 (zC (aG b i)) ?_ ?_)
   exact (fun j hj=>by rw [db,Zz (by simp;omega),dK];simp [List.getD,hj];exact Z)
   refine U 70005 ?_
   obtain rfl:i=64:=by omega
   exact bR (.inl rfl) rfl (aK rfl (f5 64)) (aa.agg rfl fun j hj=>by show aa (zC _ (0+j)) _;rw [Nat.zero_add];exact Z)
  refine U 521675116207810 ?_;refine an (fun h43=>?_) fun h43=>?_
  ·refine ia ?_;refine mT 35 (.rd 0 (.rd 1 (.rd 2 (.rd 3 (.rd 4 (.rd 5 (.rd 6 (.rd 7 (.rd 8 (.rd 9 (.rd 10 (.rd 11 (.rd 12 (.rd 13 (.rd 14 (.rd 15 (.rd 16 (.rd 17 (.rd 18 (.rd 19 (.rd 20 (.rd 21 (.rd 22 (.rd 23 (.rd 24 (.rd 25 (.rd 26 (.rd 27 (.rd 28 (.rd 29 (.rd 30 (.rd 31 (.rd 32 (.rd 33 (.rd 34 .done))))))))))))))))))))))))))))))))))) ?_;refine U 30000707070 ?_;refine aJ (gm (i:=4 * i) rfl rfl rfl underlying23 fR O O) ?_;refine qF (gy (hv:=RL r off (4 * i))) ?_;refine aJ (r9 .u32) ?_;refine aJ (BL (n:=24) rfl rfl rfl jD (mb (pg _ jD))) ?_;refine U 30000300007070 ?_;refine aJ (gm (i:=4 * i+1) rfl rfl rfl underlying23 fR O O) ?_;refine qF (gy (hv:=RL r off (4 * i+1))) ?_;refine aJ (r9 .u32) ?_;refine aJ (BL (n:=16) rfl rfl rfl jD (mb (pg _ jD))) ?_;refine aJ (nT rfl rfl rfl (mb (pg _ jD)) (mb (pg _ jD))) ?_;refine U 30000300007070 ?_;refine aJ (gm (i:=4 * i+2) rfl rfl rfl underlying23 fR O O) ?_;refine qF (gy (hv:=RL r off (4 * i+2))) ?_;refine aJ (r9 .u32) ?_;refine aJ (BL (n:=8) rfl rfl rfl jD (mb (pg _ jD))) ?_;refine aJ (nT rfl rfl rfl (mb (vz (pg _ jD) (pg _ jD))) (mb (pg _ jD))) ?_;refine U 30000300007070 ?_;refine aJ (gm (i:=4 * i+3) rfl rfl rfl underlying23 fR O O) ?_;refine qF (gy (hv:=RL r off (4 * i+3))) ?_;refine aJ (r9 .u32) ?_;refine aJ (nT rfl rfl rfl (mb (vz (vz (pg _ jD) (pg _ jD)) (pg _ jD))) (mb (XJ _))) ?_;refine aJ (aZ rfl rfl rfl underlying315 ft (show _=((i:Nat):Int) by omega) (by omega)) ?_;refine Az ?_
   show cQ _ _ _ _ _ _
   refine aw (bg 1 (zC (aG b (i+1))) ?_ ?_)
   exact (fun j hj=>by rw [IM O (Yw hb O)];exact GY (iH b i))
   refine U 8519200840002000600085 ?_
   refine am (i+1) ?_ ?_ (h7:=?_)
   omega
   omega
   exact .same (.blk rfl (fun _ _=>aa.top _) (.same .nil))
  refine U 7810 ?_
  have hA:(aG b i).getD (i-15) 0<jj:=by rw [rJ b O];split;exact GN _ _;exact aNx _ jD
  have hB:(aG b i).getD (i-2) 0<jj:=by rw [rJ b O];split;exact GN _ _;exact aNx _ jD
  refine dQ (.rd 0 (.rd 1 (.rd 2 (.rd 3 (.rd 4 (.rd 5 (.rd 6 (.rd 7 (.rd 8 (.rd 9 .done)))))))))) ?_;refine U 3000070 ?_;refine aJ (aZ rfl rfl rfl underlying315 ft (show _=(((i-15):Nat):Int) by omega) (by omega)) ?_;refine U 300007010000 ?_;refine aJ (aZ rfl rfl rfl underlying315 ft (show _=(((i-2):Nat):Int) by omega) (by omega)) ?_;refine U 880707010000 ?_;refine mT 29 (.rd 0 (.rd 1 (.rd 2 (.rd 3 (.rd 4 (.rd 5 (.rd 7 (.rd 10 (.rd 11 (.rd 14 (.rd 15 (.rd 16 (.rd 17 (.rd 19 (.rd 21 (.rd 24 (.rd 25 (.one 6 (.one 8 (.rd 9 (.rd 12 (.rd 13 (.rd 18 (.one 20 (.one 22 (.rd 23 (.rd 26 (.rd 27 (.rd 28 .done))))))))))))))))))))))))))))) ?_;refine U 300007070 ?_;refine aJ (aZ rfl rfl rfl underlying315 ft (show _=(((i-16):Nat):Int) by omega) (by omega)) ?_;refine U 70707010000 ?_;refine aJ (jg (n:=3) rfl rfl rfl jD) ?_;refine U 3000070 ?_;refine aJ (aZ rfl rfl rfl underlying315 ft (show _=(((i-7):Nat):Int) by omega) (by omega)) ?_;refine U 70707010000 ?_;refine aJ (jg (n:=10) rfl rfl rfl jD) ?_
  refine gp (ak (fh _ 7 hA jD jD) ?_)
  refine gp (ak (fh _ 18 hA jD jD) ?_)
  refine aJ (dc rfl rfl rfl (mb (aX hA)) (mb (aX hA))) ?_;refine aJ (dc rfl rfl rfl (mb (gI (aX hA) (aX hA))) (mb (nN hA))) ?_;refine aJ (fw rfl rfl rfl) ?_;refine aJ (fw rfl rfl rfl) ?_
  refine gp (ak (fh _ 17 hB jD jD) ?_)
  refine gp (ak (fh _ 19 hB jD jD) ?_)
  refine aJ (dc rfl rfl rfl (mb (aX hB)) (mb (aX hB))) ?_;refine aJ (dc rfl rfl rfl (mb (gI (aX hB) (aX hB))) (mb (nN hB))) ?_;refine aJ (fw rfl rfl rfl) ?_;refine aJ (aZ rfl rfl rfl underlying315 ft (show _=((i:Nat):Int) by omega) (by omega)) ?_;refine Az ?_
  show cQ _ _ _ _ _ _
  refine aw (bg 1 (zC (aG b (i+1))) ?_ ?_)
  exact (fun j hj=>by rw [IN O (YJ (aG b i) i)];exact GY (iH b i))
  refine U 851920084005 ?_
  refine am (i+1) ?_ ?_ (h7:=?_)
  omega
  omega
  exact .same (.blk rfl (fun _ _=>aa.top _) (.same .nil))
section
variable {P:Program} {G:Gh} {o:Oper} {s:AS} {t u:TypeId} {x y:Operand} {k:IntKind}
theorem G4 {St:Nat→Prop} {a:Act} {w:World} (h:ax G St s a w) (hS:∀ t ∈ oV,t.1 ∈ pF G.gs) {g:Nat} {vs:List Value} (hm:(g,vs) ∈ oV):aP G.al St w (.rp vs.length fun j=>.c (vs.getD j undef)) (.pointer (some ⟨g,0,none⟩)) :=
 ⟨g,0,rfl,h.sg.1 g (hS _ hm),fun j hj=>⟨_,by rw [Nat.zero_add];exact h.sn.tbl _ hm (hS _ hm) j _ (ZM hj),by simp [List.getD,hj];rfl⟩⟩
theorem JA {e:TypeId} {n i g:Nat} {z:Int} {vs:List Value} (hS:∀ t ∈ oV,t.1 ∈ pF G.gs) (hm:(g,vs) ∈ oV) (ho:o.op=.indexAddr t (.global g) y) (hy:s.eval y=.c (.int k z)) (h1:P.underlying t=some (.array n e)) (h5:(P.info? e).map (·.size)=some 1) (hz:z=(i:Int)) (hi:i<n) (hn:n=vs.length):cj P G o s (.rp 1 fun _=>.c (vs.getD i undef)):=fun St a w h=>by
 have ⟨info,h5i,h6⟩:=ZG.1 h5
 have ⟨b,q,e0,hb,hf⟩:=G4 h hS hm
 obtain ⟨rfl,rfl⟩:b=g∧q=0:=by
  injection e0 with e1
  have e2:=Z3 e1
  injection e2 with e3 e4 _
  exact ⟨e3.symm,e4.symm⟩
 have ey:a.eval y=.int k z:=kZ h hy
 refine ⟨.pointer (some ⟨b,0+i * 1,none⟩),fun W _=>?_,b,0+i * 1,rfl,hb,fun j hj=>?_⟩
 ·simp only [execOp,ho,ey]
  refine ma ?_
  subst hz
  simp [Instr.indexAt,asIntOf,underlying,h1,sizeOf,typeInfo,h5i,h6,hi,fE,Instr.sureAddr,Act.eval]
 ·obtain rfl:j=0:=by omega
  have:=hf i O
  simpa using this
theorem Ju {d:TypeDesc} {m g:Nat} {vs:List Value} (hS:∀ t ∈ oV,t.1 ∈ pF G.gs) (hm:(g,vs) ∈ oV) (ho:o.op=.load t (.global g)) (h1:P.underlying t=some d) (ha:iB P t=true) (h5:(P.info? t).map (·.size)=some m) (hn:m≤vs.length):cj P G o s (.agg m fun j=>.c (vs.getD j undef)):=fun St a w h=>by
 have ⟨info,h5i,h6⟩:=ZG.1 h5
 have ⟨b,q,e,hb,hf⟩:=G4 h hS hm
 obtain ⟨c,hc⟩:=oF (fun j (hj:j<vs.length)=>hf j hj)
 subst h6
 refine ⟨_,fun W hW=>jW ho e (ld h1 ha h5i (g:=c) fun j hj=>?_),_,rfl,by simp,fun i hi=>?_⟩
 exact (cD (hW b hb) _).trans (hc j O).1
 ·simp [hi];exact (hc i O).2
theorem Rc {a:Nat} (ho:o.op=.unOp .xor t x) (hx:s.eval x=.c (.int .u32 (a:Nat))) (ha:a<jj):cj P G o s (.c (.int .u32 ((od a:Nat):Int))):=fun _ _ _ h =>
 ⟨_,fun W _=>by
  simp only [execOp,ho,kZ h hx]
  refine ma (v:=.int .u32 ((od a:Nat):Int)) ?_
  have e:BitVec.ofInt IntKind.u32.bits IntKind.u32.max=BitVec.ofInt IntKind.u32.bits ((4294967295:Nat):Int):=rfl
  have e2:4294967295 ^^^ a=od a:=by
   refine cnx fun i=>?_
   rw [cSx,DL ha,show (4294967295:Nat)=2 ^ 32-1 from rfl,Nat.testBit_two_pow_sub_one]
   by_cases hi:i<32
   ·simp [hi]
   ·simp [hi,Vw ha (chx hi)]
  have e3:IntKind.u32.wrap (BitVec.ofInt IntKind.u32.bits IntKind.u32.max ^^^ BitVec.ofInt IntKind.u32.bits ((a:Nat):Int)).toNat=((od a:Nat):Int):=by
   rw [BitVec.toNat_xor,e,mE (k:=.u32) (by show _∧_;omega),mE (mb ha),e2]
   exact cU (mb (not_lt a))
  simp [Op.unary,Op.intBits,IntKind.signed]
  exact e3,rfl⟩
theorem zY {z:Value} {e:TypeId} {len m:Nat} {parts:Array (Nat×Operand)} {l:List CV} {n:Nat} (ho:o.op=.build t parts) (h1:P.underlying t=some (.array len e)) (h5:(P.info? e).map (·.size)=some m) (hz:(P.info? t).map (·.zero)=some (some z))
  (hf:tF (fun i=>some (i * m,m)) (z.cells.toList.map .c) (parts.toList.map fun p=>(p.1,s.eval p.2))=some l) (hn:l.length=n):cj P G o s (.agg n (fl l)):=fun St a w h=>by
 have ⟨info,hi,hz⟩:=ZG.1 hz
 have ⟨info5,h5i,h6⟩:=ZG.1 h5
 obtain ⟨cs',k1,h2⟩:=tE (al:=G.al) (St:=St) (w:=w) (parts.toList.map fun p=>(p.1,a.eval p.2)) _ (z.cells.toList.map .c) z.cells l ⟨by simp,fun i hi=>by
   have hi:i<z.cells.size:=by simpa using hi
   rw [dK];simp [List.getD,hi];rfl⟩ (by simp) (fun i hi=>by
   have hi:i<parts.size:=by simpa using hi
   simp [List.getD,hi]
   exact h.eval _) hf
 refine ⟨.agg cs',fun W _=>?_,cs',rfl,by rw [h2.1,hn],fun i hi=>h2.2 i O⟩
 simp only [execOp,ho]
 refine ma ?_
 have k1':Instr.fill (fun i=>some (i * m,m)) z.cells (parts.map fun p=>(p.1,a.eval p.2)).toList=some cs':=by simpa using k1
 simp only [Instr.build,zeroValue,typeInfo,Sem.run_bind,run_program,Result.andThen_ok,hi,Sem.run_pure,hz,underlying,h1,sizeOf,h5i,h6,k1']
theorem zX {e:TypeId} {len n i:Nat} {f:Nat→CV} {v:CV} {z:Int} {k':IntKind} (ho:o.op=.index t x y) (hx:s.eval x=.agg n f) (hy:s.eval y=.c (.int k z)) (h1:P.underlying t=some (.array len e)) (h3:P.underlying e=some (.int k')) (h5:(P.info? e).map (·.size)=some 1)
  (hz:z=(i:Int)) (hi:i<len) (hn:i<n) (hv:f i=v):cj P G o s v:=fun St a w h=>by
 have ⟨info,h5i,h6⟩:=ZG.1 h5
 have ⟨cs,e',hn',hf⟩:=iY h hx
 refine ⟨cs.getD i undef,fun W _=>?_,hv ▸ hf _ hn⟩
 simp only [execOp,ho,e',kZ h hy]
 refine ma ?_
 subst hz
 have:i<cs.size:=by omega
 have h4:iB P e=false:=by unfold iB;rw [h3]
 simp [Instr.index,asIntOf,underlying,h1,hi,part,m9 h3,h4,sizeOf,typeInfo,h5i,h6,this]
end
def hF (ws:List Nat) (c8 c9:CV) (j:Nat):CV:=if j<8 then zC ws j else if j=8 then c8 else c9
section
variable {gs:List Nat} [ud gs]
theorem Yx:(32,kL.map fun (n:Nat)=>Value.int .u32 n) ∈ oV:=Z2 _ (agx.2 rfl)
theorem Zc {i:Nat} (h:i<64):(kL.map fun (n:Nat)=>Value.int .u32 n).getD i undef=.int .u32 ((kL.getD i 0:Nat):Int):=by
 have hl:i<kL.length:=h
 simp [List.getD,hl]
def tP (v:List Nat) (k w:Nat):Nat:=((((v.getD 7 0+((dx (v.getD 4 0) 6 ^^^ dx (v.getD 4 0) 11) ^^^ dx (v.getD 4 0) 25)) % 4294967296+((v.getD 4 0 &&& v.getD 5 0) ^^^ (od (v.getD 4 0) &&& v.getD 6 0))) % 4294967296+k) % 4294967296+w) % 4294967296
def uP (v:List Nat):Nat:=(((dx (v.getD 0 0) 2 ^^^ dx (v.getD 0 0) 13) ^^^ dx (v.getD 0 0) 22)+(((v.getD 0 0 &&& v.getD 1 0) ^^^ (v.getD 0 0 &&& v.getD 2 0)) ^^^ (v.getD 1 0 &&& v.getD 2 0))) % 4294967296
theorem WD {v:List Nat} (h:ju v) (k w:Nat):tP v k w=tM v k w % 4294967296:=by
 have e:=Lb (h.2 4) (h.2 5) (h.2 6)
 unfold tP tM QB
 unfold cS at e ⊢
 rw [e]
 generalize dx (v.getD 4 0) 6 ^^^ dx (v.getD 4 0) 11 ^^^ dx (v.getD 4 0) 25=a
 generalize (v.getD 4 0 &&& v.getD 5 0) ||| (od (v.getD 4 0) &&& v.getD 6 0)=c
 omega
theorem Wz (v:List Nat):uP v=uM v % 4294967296:=by
 unfold uP uM QC cS
 rw [RT]
theorem Di {v:List Nat} (h:ju v) (k w j:Nat) (hj:j<8):aa (fl [.c (.int .u32 (((tP v k w+uP v) % 4294967296:Nat):Int)),.c (.int .u32 ((v.getD 0 0:Nat):Int)),.c (.int .u32 ((v.getD 1 0:Nat):Int)),.c (.int .u32 ((v.getD 2 0:Nat):Int)),.c (.int .u32 (((v.getD 3 0+tP v k w) % 4294967296:Nat):Int)),.c (.int .u32 ((v.getD 4 0:Nat):Int)),.c (.int .u32 ((v.getD 5 0:Nat):Int)),.c (.int .u32 ((v.getD 6 0:Nat):Int))] j) (zC (pm v k w) j):=by
 rw [WD h,Wz]
 rcases j with _|_|_|_|_|_|_|_|j
 exact cI (by show _=(((tM v k w+uM v) % 4294967296:Nat):Int);omega)
 exact Z
 exact Z
 exact Z
 exact cI (by show _=(((v.getD 3 0+tM v k w) % 4294967296:Nat):Int);omega)
 exact Z
 exact Z
 exact Z
 omega
theorem MF {ws V:List Nat} {b:I} {i:Nat} (hVe:V=dY ws b i) (hV:ju V) {l:List CV} (hl:l=[.c (.int .u32 (((tP V (kL.getD i 0) ((aG b 64).getD i 0)+uP V) % 4294967296:Nat):Int)),.c (.int .u32 ((V.getD 0 0:Nat):Int)),.c (.int .u32 ((V.getD 1 0:Nat):Int)),.c (.int .u32 ((V.getD 2 0:Nat):Int)),.c (.int .u32 (((V.getD 3 0+tP V (kL.getD i 0) ((aG b 64).getD i 0)) % 4294967296:Nat):Int)),.c (.int .u32 ((V.getD 4 0:Nat):Int)),.c (.int .u32 ((V.getD 5 0:Nat):Int)),.c (.int .u32 ((V.getD 6 0:Nat):Int))]) (j:Nat) (hj:j<8):aa (fl l j) (zC (dY ws b (i+1)) j):=by
 subst hl
 have:=Di hV (kL.getD i 0) ((aG b 64).getD i 0) j hj
 subst hVe
 exact this
theorem Fn {n j:Nat} {f F:Nat→CV} {c:CV} (hj:j<n) (h:aa (F j) c):aa (fX f 0 ((List.range n).map F) j) c:=by
 rw [db,Zz (by simp;exact hj),dK]
 simpa [List.getD,hj] using h
def yN (ws v:List Nat) (c8 c9:CV) (i j:Nat):CV:=if j<8∧j<i then .c (.int .u32 (((cS ws j+cS v j) % 4294967296:Nat):Int)) else hF ws c8 c9 j
theorem PQ {ws v:List Nat} {c8 c9:CV} {i j:Nat} (hi:i<8):aa (fX (yN ws v c8 c9 i) i [.c (.int .u32 (((cS ws i+cS v i) % 4294967296:Nat):Int))] j) (yN ws v c8 c9 (i+1) j):=by
 rw [db]
 by_cases h:j=i
 ·subst h
  rw [Zz (by simp),bAx]
  unfold yN
  rw [Zz ⟨hi,by omega⟩]
  exact Z
 ·rw [Zy (by simp;omega)]
  unfold yN
  by_cases h2:j<8∧j<i
  ·rw [Zz h2,jP];exact Z
  ·rw [Zy h2,jK];exact Z
theorem PR {ws:List Nat} (b:I) {c8 c9:CV} (j:Nat):aa (yN ws (dY ws b 64) c8 c9 8 j) (hF (mh ws b) c8 c9 j):=by
 unfold yN hF
 by_cases h:j<8
 ·rw [Zz ⟨h,h⟩,Zz h]
  refine aa.of_eq ?_
  unfold zC mh
  rw [ZB,aBx,bEx h]
  rfl
 ·rw [jK,Zy h,Zy h]
  exact Z
theorem Tj (ws v:List Nat) (c8 c9:CV) {i:Nat} (hi:i<8):yN ws v c8 c9 i i=.c (.int .u32 ((ws.getD i 0:Nat):Int)):=by
 unfold yN hF
 rw [jK,Zz hi]
 rfl
theorem QA (n:Nat) (ws:List Nat) (c8 c9:CV) (g:Option Nat) (off:Nat) (r:I) (hw:ju ws) (h:64≤r.length) (hr:r.length≤1000000000000):AC gs prog 246 [ka [(some n,.blk 10 (hF ws c8 c9)),(g,.blk (off+r.length) (de off (aV r)))]] [.op 0 (some n) 0,.os 1 g off 64 1]
  (fun x H'=>x=.c (.tuple #[])∧H'=[ka [(some n,.blk 10 (hF (mh ws (r.take 64)) c8 c9)),(g,.blk (off+r.length) (de off (aV r)))]]):=by
 obtain ⟨b,hb⟩:∃ b,b=r.take 64:=⟨_,rfl⟩
 have hsp:=IP (gs:=gs) g off r h hr
 rw [← hb] at hsp ⊢
 refine ae 111 func246 fun _ _ _ _=>?_
 first
  |(refine jE (bag_pop 0 rfl) ?_;refine jE (bag_pop 0 rfl) ?_;refine jE (ce (H':=[(some n,.blk 10 (hF ws c8 c9)),(g,.blk (off+r.length) (de off (aV r)))]) [1,2] jD rfl) ?_)
  | skip
 refine U 4016 ?_;refine kj (bD 8) ?_
 refine aq (dh (n:=8) Tp rfl fun p1=>?_)
 refine aw (bg 8 (zC ws) ?_ ?_)
 exact (fun j hj=>by rw [db,Zz (by simp;omega),dK];simp [List.getD,hj,hF];exact Z)
 refine U 1675 ?_
 refine aw (aN 1 hsp ?_)
 refine U 2051 ?_;refine ar (α:=Nat) [5,6,7,8,9,10,17,18,19,20,21,22,23,24,25,26,27,28,29,30,31,32,33,34,35,36,37,38,39,40,41,42,43,44,45,46,47,48,49,50,51,52,53,54,55,56,57,58,59,60,61,62,63,64,65,66,67,68,69,70,71,72,73,74,75,76,77,78,79,80,81,82,83,84,85,86,87,88,89,90,91,92,93,94,95] (fun i=>[(17,.c (.int .i64 (i:Nat)))]) (fun i=>[(some n,.blk 10 (hF ws c8 c9)),(g,.blk (off+r.length) (de off (aV r))),(p1,.blk 8 (zC (dY ws b i)))]) (fun i=>i≤64) (fun i=>64-i) (0) ?_ (fun _=>rfl) ?_ ?_ ?_
 ·simp
 ·(repeat (first|exact bh.nil|refine bh.cons Z ?_))
 exact aD.refl _
 ·rintro i (hi:i≤64)
  refine U 7526 ?_;refine aaa (fun h56=>?_) fun h56=>?_
  ·refine U 2051684000200020006000 ?_;refine ar (α:=Nat) [11,96,97,98,99,100,101,102,103,104,105,106,107,108,109,110] (fun i=>[(96,.c (.int .i64 (i:Nat)))]) (fun i=>[(some n,.blk 10 (yN ws (dY ws b 64) c8 c9 i)),(g,.blk (off+r.length) (de off (aV r))),(p1,.blk 8 (zC (dY ws b 64)))]) (fun i=>i≤8) (fun i=>8-i) (0) ?_ (fun _=>rfl) ?_ ?_ ?_
   ·simp
   ·(repeat (first|exact bh.nil|refine bh.cons Z ?_))
   ·obtain rfl:i=64:=by omega
    exact .blk rfl (fun j hj=>aa.of_eq (by unfold yN;rw [jK])) (aD.refl _)
   ·rintro i2 (hi2:i2≤8)
    refine U 7526 ?_;refine aaa (fun h62=>?_) fun h62=>?_
    ·refine U 4000200020006000 ?_
     obtain rfl:i2=8:=by omega
     refine yq (H':=?H2) ?hh ?hb
     case hh=>intro _ _ _ _ _ hx;exact hx.weak (i:=0) (m:=10) (F:=hF (mh ws b) c8 c9) rfl (ZA _) (fun j _=>PR b j)
     case hb=>exact bK (gd:=fun _:Unit=>0) (E:=fun _=>[(some n,.blk 10 (hF (mh ws b) c8 c9)),(g,.blk (off+r.length) (de off (aV r)))]) (.inr rfl) _ () [0,1] jD rfl (br rfl) ⟨rfl,rfl⟩
    refine U 5116207810 ?_;refine mT 11 (.rd 0 (.rd 1 (.rd 2 (.rd 3 (.rd 4 (.rd 5 (.rd 6 (.rd 7 (.rd 8 (.rd 9 (.rd 10 .done))))))))))) ?_;refine U 500007070 ?_;refine aJ (aZ rfl rfl rfl underlying293 ft (show _=((i2:Nat):Int) by omega) (by omega)) ?_;refine qF (gy (hv:=Tj ws (dY ws b 64) c8 c9 O)) ?_;refine U 70 ?_;refine aJ (aZ rfl rfl rfl underlying293 ft (show _=((i2:Nat):Int) by omega) (by omega)) ?_;refine qF gy ?_;refine aJ (fw rfl rfl rfl) ?_;refine aJ Kj ?_;refine aJ (aZ rfl rfl rfl underlying293 ft (show _=((i2:Nat):Int) by omega) (by omega)) ?_;refine Az ?_
    show cQ _ _ _ _ _ _
    refine aw (bg 1 (yN ws (dY ws b 64) c8 c9 (i2+1)) ?_ ?_)
    exact (fun j hj=>PQ O)
    refine U 851920084005 ?_
    refine am (i2+1) ?_ ?_ (h7:=?_)
    omega
    omega
    exact aD.refl _
  refine U 16207810 ?_;refine jq (zX (i:=i) rfl rfl rfl underlying315 underlying257 ft rfl O O rfl) ?_;refine U 7511 ?_
  have hV:=nI hw b i
  obtain ⟨V,hVe⟩:∃ V,V=dY ws b i:=⟨_,rfl⟩
  rw [← hVe] at hV ⊢
  have h0:V.getD 0 0<jj:=hV.2 0
  have h1:V.getD 1 0<jj:=hV.2 1
  have h2:V.getD 2 0<jj:=hV.2 2
  have h4:V.getD 4 0<jj:=hV.2 4
  have h5:V.getD 5 0<jj:=hV.2 5
  have h6:V.getD 6 0<jj:=hV.2 6
  refine dQ (.rd 0 (.rd 1 (.rd 2 (.rd 3 (.rd 4 (.rd 5 .done)))))) ?_;refine aJ (aZ rfl rfl rfl underlying293 ft (show (0:Int)=((0:Nat):Int) from rfl) (by omega)) ?_;refine qF gy ?_;refine aJ (aZ rfl rfl rfl underlying293 ft (show (4:Int)=((4:Nat):Int) from rfl) (by omega)) ?_;refine U 7880707010000 ?_;refine dQ (.rd 0 (.rd 1 (.rd 2 (.rd 4 (.rd 7 (.rd 11 (.rd 12 (.rd 13 (.rd 14 (.rd 15 (.rd 16 (.rd 17 (.rd 18 (.rd 19 (.rd 20 (.rd 22 (.rd 23 (.rd 24 (.rd 26 (.one 3 (.one 5 (.rd 6 (.one 8 (.rd 9 (.rd 10 (.rd 21 (.rd 25 (.rd 27 (.rd 28 .done))))))))))))))))))))))))))))) ?_;refine aJ (aZ rfl rfl rfl underlying293 ft (show (7:Int)=((7:Nat):Int) from rfl) (by omega)) ?_;refine U 7070707010000 ?_;refine aJ (aZ rfl rfl rfl underlying293 ft (show (5:Int)=((5:Nat):Int) from rfl) (by omega)) ?_;refine qF gy ?_;refine aJ (lh rfl rfl rfl (mb h4) (mb h5)) ?_;refine U 70 ?_;refine aJ (Rc rfl rfl h4) ?_;refine aJ (aZ rfl rfl rfl underlying293 ft (show (6:Int)=((6:Nat):Int) from rfl) (by omega)) ?_;refine qF gy ?_;refine aJ (lh rfl rfl rfl (mb (not_lt _)) (mb h6)) ?_;refine aJ (dc rfl rfl rfl (mb (fD h4)) (mb (fD (not_lt _)))) ?_;refine U 70 ?_;refine aJ (JA (i:=i) ud.a Yx rfl rfl underlying315 ft rfl O rfl) ?_;refine aJ (kF (hv:=by rw [Zc O])) ?_;refine U 70 ?_
  refine gp (ak (fh _ 6 h4 jD jD) ?_)
  refine gp (ak (fh _ 11 h4 jD jD) ?_)
  refine aJ (dc rfl rfl rfl (mb (aX h4)) (mb (aX h4))) ?_
  refine gp (ak (fh _ 25 h4 jD jD) ?_)
  refine aJ (dc rfl rfl rfl (mb (gI (aX h4) (aX h4))) (mb (aX h4))) ?_;refine aJ (fw rfl rfl rfl) ?_;refine aJ (fw rfl rfl rfl) ?_;refine aJ (fw rfl rfl rfl) ?_;refine aJ (fw rfl rfl rfl) ?_;refine U 788070 ?_;refine dQ (.rd 0 (.rd 2 (.rd 5 (.rd 8 (.rd 9 (.rd 10 (.rd 11 (.rd 12 (.rd 13 (.rd 14 (.rd 15 (.rd 16 (.rd 17 (.rd 18 (.rd 19 (.rd 20 (.rd 21 (.rd 22 (.one 1 (.one 3 (.rd 4 (.one 6 (.rd 7 (.rd 23 (.rd 24 .done))))))))))))))))))))))))) ?_;refine U 70707070 ?_;refine aJ (aZ rfl rfl rfl underlying293 ft (show (1:Int)=((1:Nat):Int) from rfl) (by omega)) ?_;refine qF gy ?_;refine aJ (lh rfl rfl rfl (mb h0) (mb h1)) ?_;refine U 70 ?_;refine aJ (aZ rfl rfl rfl underlying293 ft (show (2:Int)=((2:Nat):Int) from rfl) (by omega)) ?_;refine qF gy ?_;refine aJ (lh rfl rfl rfl (mb h0) (mb h2)) ?_;refine aJ (dc rfl rfl rfl (mb (fD h0)) (mb (fD h0))) ?_;refine aJ (aZ rfl rfl rfl underlying293 ft (show (1:Int)=((1:Nat):Int) from rfl) (by omega)) ?_;refine qF gy ?_;refine aJ (aZ rfl rfl rfl underlying293 ft (show (2:Int)=((2:Nat):Int) from rfl) (by omega)) ?_;refine qF gy ?_;refine aJ (lh rfl rfl rfl (mb h1) (mb h2)) ?_;refine aJ (dc rfl rfl rfl (mb (gI (fD h0) (fD h0))) (mb (fD h1))) ?_
  refine gp (ak (fh _ 2 h0 jD jD) ?_)
  refine gp (ak (fh _ 13 h0 jD jD) ?_)
  refine aJ (dc rfl rfl rfl (mb (aX h0)) (mb (aX h0))) ?_
  refine gp (ak (fh _ 22 h0 jD jD) ?_)
  refine aJ (dc rfl rfl rfl (mb (gI (aX h0) (aX h0))) (mb (aX h0))) ?_;refine aJ (fw rfl rfl rfl) ?_;refine U 1120088070 ?_;refine jq (fw rfl rfl rfl) ?_;refine U 1 ?_;refine jq (aZ rfl rfl rfl underlying293 ft (show (1:Int)=((1:Nat):Int) from rfl) (by omega)) ?_;refine U 50 ?_;refine jq (aZ rfl rfl rfl underlying293 ft (show (2:Int)=((2:Nat):Int) from rfl) (by omega)) ?_;refine U 50 ?_;refine jq (aZ rfl rfl rfl underlying293 ft (show (3:Int)=((3:Nat):Int) from rfl) (by omega)) ?_;refine U 150 ?_;refine jq (fw rfl rfl rfl) ?_;refine U 1 ?_;refine jq (aZ rfl rfl rfl underlying293 ft (show (5:Int)=((5:Nat):Int) from rfl) (by omega)) ?_;refine U 50 ?_;refine jq (aZ rfl rfl rfl underlying293 ft (show (6:Int)=((6:Nat):Int) from rfl) (by omega)) ?_;refine U 50 ?_;refine jq (zY rfl underlying293 ft Tp rfl rfl) ?_
  refine aw (bg 8 (zC (dY ws b (i+1))) ?_ ?_)
  exact (fun j hj=>Fn hj (MF hVe hV (by kernel_rfl) j hj))
  refine U 851920084005 ?_
  refine am (i+1) ?_ ?_ (h7:=?_)
  omega
  omega
  exact aD.refl _
def kY (m:I) (z:Nat×Option Nat×Nat):List (Option Nat×aW):=[(some z.1,.blk 10 (hF (fo m) (.os 1 z.2.1 z.2.2 (bV m).length 1) (.c (.int .i64 (m.length:Nat))))),(z.2.1,.blk (z.2.2+(bV m).length) (de z.2.2 (aV (bV m))))]
def eQ (n:Nat) (m:I):Option Nat×aW:=lK n (fun z:Nat×Option Nat×Nat=>z.1) (kY m)
section
variable {P:Program} {G:Gh} {c:Code} {R:Exit→AS→Prop} {n:Nat} {m:I} {env:List (Nat×CV)} {b0:Nat→CV} {H:List (Option Nat×aW)}
theorem oC (i:Nat) (hi:H[i]?=some (eQ n m)) (h:∀ g off,aY P G c ⟨env,b0,H.set i (some n,.blk 10 (hF (fo m) (.os H.length g off (bV m).length 1) (.c (.int .i64 (m.length:Nat)))))++[(g,.blk (off+(bV m).length) (de off (aV (bV m))))]⟩ R):aY P G c ⟨env,b0,H⟩ R:=by
 have hlt:=(ZC.1 hi).1
 refine kM i hi fun z hz=>?_
 have ⟨n',g,off⟩:=z
 obtain rfl:n'=n:=hz
 refine jE (cE i 10 (hF (fo m) (.os H.length g off (bV m).length 1) (.c (.int .i64 (m.length:Nat)))) (n:=10) (g:=some n') (f:=hF (fo m) (.os 1 g off (bV m).length 1) (.c (.int .i64 (m.length:Nat)))) ?_ (ZA _) fun j hj=>?_) ?_
 ·show (H.set i _++_)[i]?=_
  rw [ZF (by simpa using hlt)]
  simp [hlt]
 ·unfold hF
  split
  exact Z
  ·split
   exact cO rfl
   exact Z
 ·have:=h g off
  rw [← bjx (a:=(some n',aW.blk 10 (hF (fo m) (.os 1 g off (bV m).length 1) (.c (.int .i64 (m.length:Nat)))))),← b2x _ _ (by simpa using hlt)] at this
  exact this
end
theorem Xx {ws:List Nat} {c8 c9 c:CV} (j:Nat):aa (fX (hF ws c8 c9) 8 [c] j) (hF ws c c9 j):=by
 rw [db]
 unfold hF
 by_cases h:j=8
 ·subst h;rw [Zz (by simp),Zy jD,Zz rfl];exact Z
 ·rw [Zy (by simp;omega)]
  by_cases h2:j<8
  ·rw [Zz h2,Zz h2];exact Z
  ·rw [Zy h2,Zy h2,Zy h,Zy h];exact Z
theorem YK {ws:List Nat} {c8 c9 c:CV} {j:Nat} (hj:j<10):aa (fX (hF ws c8 c9) 9 [c] j) (hF ws c8 c j):=by
 rw [db]
 unfold hF
 by_cases h:j=9
 ·subst h;rw [Zz (by simp),Zy jD,Zy jD];exact Z
 ·rw [Zy (by simp;omega)]
  by_cases h2:j<8
  ·rw [Zz h2,Zz h2];exact Z
  ·rw [Zy h2,Zy h2,jP,jP];exact Z
theorem TW {ws:List Nat} {c8 c9 d:CV} (h:aa c8 d) (j:Nat):aa (hF ws c8 c9 j) (hF ws d c9 j):=by
 unfold hF
 split
 exact Z
 ·split
  exact h
  exact Z
theorem JU {r:I} {off:Nat} (j:Nat):aa (de off (aV r) j) (de (off+64) (aV (r.drop 64)) j):=by
 unfold de
 by_cases h:j<off+64
 ·rw [Zz h];exact aa.top _
 ·rw [Zy h,jK]
  refine aa.of_eq ?_
  unfold aV
  rw [ZB,ZB,bsx,show 64+(j-(off+64))=j-off by omega]
theorem RK {x:I} {q off off3:Nat} (hdl:(x.drop (64 * q)).length=x.length-64 * q) (hdl2:(x.drop (64 * (q+1))).length=x.length-64 * (q+1)) (h:off3=off+64 * 1∨(64=(x.drop (64 * q)).length∧off3=off)) (j:Nat) (hj:j<off3+(x.drop (64 * (q+1))).length):aa (de off (aV (x.drop (64 * q))) j) (de off3 (aV (x.drop (64 * (q+1)))) j):=by
 rcases h with rfl|⟨h1,rfl⟩
 ·have h:=JU (r:=x.drop (64 * q)) (off:=off) j
  rw [aZx,show 64 * q+64=64 * (q+1) by omega] at h
  exact h
 ·rw [hdl2] at hj
  unfold de
  rw [jP,jP]
  exact Z
theorem sw (n:Nat) (m b:I) (hl:m.length+b.length≤100000000000):AC gs prog 226 [eQ n m] [.op 0 (some n) 0,bc b] (fun x H'=>x=.c (.tuple #[])∧H'=[eQ n (m++b)]):=by
 have hml:64 * (m.length / 64)≤m.length:=by omega
 have e1:fo m=eM firstL (m++b) (m.length / 64):=(yG firstL m b _ hml).symm
 have e2:bV m++b=(m++b).drop (64 * (m.length / 64)):=(bkx hml).symm
 have hrl:=rO m
 obtain ⟨x,hx⟩:∃ x,x=m++b:=⟨_,rfl⟩
 have hxl:x.length=m.length+b.length:=by rw [hx,ZD]
 refine ae 45 func226 fun _ _ _ _=>?_;refine oC 0 rfl fun g off=>?_;refine U 4016 ?_;refine jq (en 9 1 false) ?_;refine U 4093150 ?_;refine jq (en 9 1 false) ?_
 refine aw (bg 1 (hF (fo m) (.os 1 g off (bV m).length 1) (.c (.int .i64 (x.length:Nat)))) ?_ ?_)
 exact (fun j hj=>(YK hj).trans (aa.of_eq (by rw [hxl];simp)))
 refine U 401165 ?_;refine jq (en 8 1 false) ?_;refine U 150 ?_
 refine aw (F7 rfl rfl rfl (ZA _) (cX rfl) rfl (fun j hj=>by simp only [anx];exact Z) underlying23 dV fR da jt rfl O O (fun j hj=>rfl) rfl rfl (fun g2 off2=>?_))
 refine U 40 ?_;refine jq (en 8 1 false) ?_
 refine aw (bg 1 (hF (fo m) (.os 1 g2 off2 (bV m++b).length 1) (.c (.int .i64 (x.length:Nat)))) ?_ ?_)
 exact (fun j hj=>Xx j)
 refine U 205 ?_
 rw [e1,e2,← hx]
 refine ar (α:=Nat×Option Nat×Nat) [22,23,24,25,26,27,28,29,30,31,32,33,34,35,36,37,38,39,40,41,42,43,44] (fun (q,g,off)=>[]) (fun (q,g,off)=>[(some n,.blk 10 (hF (eM firstL x q) (.os 1 g off (x.drop (64 * q)).length 1) (.c (.int .i64 (x.length:Nat))))),(g,.blk (off+(x.drop (64 * q)).length) (de off (aV (x.drop (64 * q)))))]) (fun (q,g,off)=>64 * q≤x.length) (fun (q,g,off)=>x.length-64 * q) ((m.length / 64,g2,off2)) ?_ (fun _=>rfl) ?_ ?_ ?_
 show 64 * (m.length / 64)≤x.length;omega
 ·(repeat (exact bh.nil))
 exact aD.refl _
 ·rintro ⟨q,g,off⟩ (hq:64 * q≤x.length)
  refine U 40167 ?_;refine jq (en 8 1 false) ?_;refine U 52350 ?_;refine aaa (fun h81=>?_) fun h81=>?_
  ·refine U 4000200020006000 ?_
   have hdl:(x.drop (64 * q)).length=x.length-64 * q:=ZI
   obtain rfl:q=x.length / 64:=by omega
   exact bK (gd:=fun z:Nat×Option Nat×Nat=>z.1) (E:=kY x) (.inr rfl) _ (n,g,off) [0,1] jD rfl (br rfl) ⟨rfl,rfl⟩
  refine U 720810 ?_
  have hdl:(x.drop (64 * q)).length=x.length-64 * q:=ZI
  have hdl2:(x.drop (64 * (q+1))).length=x.length-64 * (q+1):=ZI
  refine mT 8 (.rd 0 (.rd 1 (.rd 2 (.rd 3 (.rd 4 (.rd 5 (.rd 6 (.rd 7 .done)))))))) ?_;refine U 5000070 ?_;refine aJ (en 0 8 true) ?_;refine U 5000070 ?_;refine aJ (en 8 1 false) ?_;refine qF gy ?_;refine aJ (Gb (hl:=(bv _ _)) (hu:=(ci rfl (show (64:Int)=((64:Nat):Int) from rfl)))) ?_;refine Az ?_
  show cQ _ _ _ _ _ _
  refine aA bag_new ?_;refine aA (bag_push 2 1 rfl rfl rfl) ?_;refine aA (bag_push 2 0 rfl rfl rfl) ?_;refine aA (ce (H':=[ka [(some n,.blk 10 (hF (eM firstL x q) (.os 1 g off (x.drop (64 * q)).length 1) (.c (.int .i64 (x.length:Nat))))),(g,.blk (off+(x.drop (64 * q)).length) (de off (aV (x.drop (64 * q)))))]]) [2] jD rfl) ?_
  refine aw (aN 0 (QA n _ _ _ g off (x.drop (64 * q)) (la mg x q) O (by rw [ZI];omega)) ?_)
  refine U 85 ?_;refine jE (bag_pop 0 rfl) ?_;refine jE (bag_pop 0 rfl) ?_;refine jE (ce (H':=[(some n,.blk 10 (hF (eM firstL x (q+1)) (.os 1 g off (x.drop (64 * q)).length 1) (.c (.int .i64 (x.length:Nat))))),(g,.blk (off+(x.drop (64 * q)).length) (de off (aV (x.drop (64 * q)))))]) [1,2] jD rfl) ?_;refine U 4011200 ?_;refine jq (en 8 1 false) ?_;refine U 50 ?_
  refine aq (KP rfl rfl underlying23 fR (ci rfl (show (64:Int)=((64:Nat):Int) from rfl)) O rfl rfl (fun off3 hoff=>?_))
  refine aA (cE 1 (off3+(x.drop (64 * (q+1))).length) (de off3 (aV (x.drop (64 * (q+1))))) rfl (by rw [hdl2,hdl];omega) (fun j hj=>RK hdl hdl2 hoff j hj)) ?_;refine U 40 ?_;refine jq (en 8 1 false) ?_
  refine aw (bg 1 (hF (eM firstL x (q+1)) (.os 1 g off3 (x.drop (64 * (q+1))).length 1) (.c (.int .i64 (x.length:Nat)))) ?_ ?_)
  exact (fun j hj=>(Xx j).trans (TW (aa.of_eq (by rw [show (x.drop (64 * (q+1))).length=(x.drop (64 * q)).length-64 by rw [hdl2,hdl];omega])) j))
  refine U 84005 ?_
  refine am ((q+1,g,off3)) ?_ ?_ (h7:=?_)
  show 64 * (q+1)≤x.length;omega
  show x.length-64 * (q+1)<x.length-64 * q;omega
  exact aD.refl _
theorem YM:(29,firstL.map fun (n:Nat)=>Value.int .u32 n) ∈ oV:=ZU
theorem Vz {c8 c9:CV} {l:List CV} (hl:l=[.c (.int .u32 ((firstL.getD 0 0:Nat):Int)),.c (.int .u32 ((firstL.getD 1 0:Nat):Int)),.c (.int .u32 ((firstL.getD 2 0:Nat):Int)),.c (.int .u32 ((firstL.getD 3 0:Nat):Int)),.c (.int .u32 ((firstL.getD 4 0:Nat):Int)),.c (.int .u32 ((firstL.getD 5 0:Nat):Int)),.c (.int .u32 ((firstL.getD 6 0:Nat):Int)),.c (.int .u32 ((firstL.getD 7 0:Nat):Int)),c8,c9]) {d8 d9:CV} (h8:aa c8 d8) (h9:aa c9 d9) (j:Nat) (hj:j<10):aa (fl l j) (hF firstL d8 d9 j):=by
 subst hl
 rcases j with _|_|_|_|_|_|_|_|_|_|j
 all_goals first|exact Z|exact h8|exact h9|omega
theorem Yv {G:Gh} {env:List (Nat×CV)} {b0:Nat→CV} (n:Nat) {f:Nat→CV} (hf:∀ j,j<10→aa (f j) (hF firstL (.os 1 none 0 0 1) (.c (.int .i64 0)) j)):cJ G ⟨env,b0,[(some n,.blk 10 f)]⟩ ⟨env,b0,[eQ n []]⟩:=by
 refine (f8 (G:=G) (s:=⟨env,b0,[(some n,.blk 10 f)]⟩) (de 0 (aV []))).trans (cJ.hrel fun h=>?_)
 have h2:=h.weak (i:=0) (n:=10) (m:=10) (F:=hF firstL (.os 1 none 0 0 1) (.c (.int .i64 0))) (g:=some n) (f:=f) rfl (ZA _) hf
 have h4:=h2.closeN (gd:=fun z:Nat×Option Nat×Nat=>z.1) (E:=kY []) (n,none,0) 0 [1] jD (by simp) rfl
 exact h4.pick [0] jD rfl
theorem DO:AC gs prog 225 [] [] (fun r H'=>∃ n,r=.op 0 (some n) 0∧H'=[eQ n []]):=by
 refine ae 4 func225 fun al w0 F0 St0=>?_;refine U 6516 ?_;refine jq (Ju (m:=8) ud.a YM rfl underlying293 (by kernel_rfl) (by kernel_rfl) jD) ?_;refine jq (au (n:=10) rfl wP xC rfl rfl) ?_
 refine aq (ee 10 fun p1=>?_)
 refine U 51 ?_;refine cL (ig 0 rfl) fun ⟨n,hn⟩=>?_
 subst hn
 refine jE (Yv n (fun j hj=>Vz (c8:=.c (.slice none 0 0)) (c9:=.c (.int .i64 0)) (d8:=.os 1 none 0 0 1) (d9:=.c (.int .i64 0)) (by kernel_rfl) (fun al St w v h=>⟨rfl,h⟩) Z j hj)) ?_;refine U 7000 ?_
 exact bL (.inl rfl) [0] jD rfl (aK rfl (ai rfl)) (cP (j:=0)) ⟨n,rfl,rfl⟩
end
theorem N7 {G:Gh} {s:AS} (d:Nat) {i off n k:Nat} (hl:look s.env s.b d=.os i none off n k):∀ a w,wm G s a w→n=0:=fun a w ⟨St,hr⟩=>by
 have:=iY hr (x:=.tmp d) hl
 exact this.1
theorem La (l:I) (g:Option Nat) (off:Nat) (hl:l.length≤100000000000):AC gs prog 105 [(g,.blk (off+l.length) (de off (aV l)))] [.os 0 g off l.length 1]
  (fun r H'=>∃ g2,r=.os 1 g2 0 l.length 1∧H'=[ka [(g,.blk (off+l.length) (de off (aV l))),(g2,.blk (0+l.length) (de 0 (aV l)))]]):=by
 refine ae 8 func105 fun al w0 F0 St0=>?_;refine U 167516 ?_
 first|refine jq (Rp rfl rfl rfl underlying23) ?_|refine jq (Ho rfl rfl rfl underlying23) ?_
 refine U 5 ?_;refine an (fun h357=>?_) fun h357=>?_
 ·obtain rfl:g=none:=by cases g<;>simp at h357 ⊢
  refine cL (N7 0 rfl) fun hn=>?_
  obtain rfl:l=[]:=Z5 hn
  refine U 516 ?_;refine jE (f8 (de 0 (aV []))) ?_;refine U 30007000 ?_
  exact bK (gd:=fun _:Unit=>0) (E:=fun _=>[(none,.blk (off+0) (de off (aV []))),(none,.blk (0+0) (de 0 (aV [])))]) (.inl rfl) (.os 1 none 0 0 1) () [0,1] jD rfl ((aK rfl bo).ent (show aa (.c (.slice none 0 0)) (.os 1 none 0 0 1) from fun al St w v h=>⟨rfl,h⟩)) ⟨none,rfl,rfl⟩
 refine U 6810 ?_
 refine aq (aM 0 1 da fun p1=>?_)
 refine U 1 ?_
 refine aw (ay (l:=[]) rfl rfl rfl (ZL _) (fun j hj=>absurd hj (ZO j)) (aI rfl (.inl rfl) O) rfl (fun j hj=>by rw [lj];exact Z) underlying23 dV fR da jt rfl (by simp;omega) (fun j hj=>by show fO (de off (aV l) (off+j))=true;rw [lj];rfl) rfl rfl (fun p2=>?_))
 refine U 700051 ?_
 refine yq (H':=?H2) ?hh ?hb
 case hh=>intro _ _ _ _ _ hx;exact hx.weak (i:=1) (m:=0+l.length) (F:=de 0 (aV l)) rfl (by simp) (fun j hj=>by unfold de;rw [jK,aJx];exact Z)
 case hb=>exact bK (gd:=fun _:Unit=>0) (E:=fun _=>[(g,.blk (off+l.length) (de off (aV l))),(p2,.blk (0+l.length) (de 0 (aV l)))]) (.inl rfl) (.os 1 p2 0 l.length 1) () [0,1] jD rfl (aK rfl (ai rfl)) ⟨p2,rfl,rfl⟩
section
variable {P:Program} {G:Gh} {s:AS} {o:Oper} {K:AS→Prop}
theorem SB {f:FuncId} {x:Operand} {ats:Array TypeId} {l:I} {off N i:Nat} {g:Option Nat} {F:Nat→CV} (ho:o.op=.call ⟨.value (.func f),#[x],ats⟩) (hc:bA P f=true) (hx:s.eval x=.os i g off l.length 1) (hH:s.H[i]?=some (g,.blk N F)) (hN:off+l.length≤N) (hF:∀ a,a<l.length→aa (F (off+a)) (aV l a))
  (hA:AC G.gs P f [] [bc l] (ss l.length 1 l.length (aV l))) (hd:bY G o=true)
  (hK:∀ g2,K (s.with o.dst (.os s.H.length g2 0 l.length 1) (s.H++[(g2,.blk l.length (aV l))]))):kP P G o s K:=fun St a w hr Q'=>by
 unfold Oper.wp
 rw [vb ho hc]
 have he:=iY hr hx
 have ⟨fp,hp⟩:=hr.hp
 have hre:=hp.rep i g _ hH
 have hent:vW G.gs G.al (fun b=>St b∨g=some b) (fun _=>False) [] w:=by
  refine ⟨fun b hb=>?_,hr.sn,⟨fun y hy=>.inl (hr.sg.1 y hy),fun y hy=>.inl (hr.sg.2 y hy)⟩,⟨fun _ _=>False,fun i g r hi=>by simp at hi,fun _ _ _ h=>h.elim,fun _ _ h=>h.elim,fun _ _ _ h=>h⟩,fun _ h=>h.elim⟩
  rcases hb with hb|rfl
  exact hr.s3 b hb
  ·have ⟨_,cur,t,h1,_⟩:=hre
   exact (ZX.1 h1).1
 have harg:aP G.al (fun b=>St b∨g=some b) w (bc l) (a.eval x):=by
  cases g with
  | none =>
   have ⟨h1,h2⟩:=he
   exact ⟨none,0,by rw [h2,h1],by omega,by decide,fun _=>rfl,fun _ h=>by cases h⟩
  | some g =>
   have ⟨cap,h1,h2,h3,_⟩:=he
   have ⟨_,cur,t,hh,hle,hcc⟩:=hre
   refine ⟨_,cap,h1,h2,h3,(fun h=>by cases h),fun ad ha _=>?_⟩
   cases ha
   refine ⟨rfl,.inr rfl,fun p q hp' hq=>?_⟩
   obtain rfl:q=0:=by omega
   have hlt:off+(p * 1+0)<cur.size:=by omega
   refine ⟨cur.getD (off+(p * 1+0)) undef,?_,?_⟩
   ·show w.cell? ⟨g,off+(p * 1+0),none⟩=_
    have hlt2:off+p<cur.size:=by omega
    rw [cell_of_row w g _ cur t _ hh];simp [hlt2]
   ·have h5:=hF p hp' _ _ _ _ (hcc (off+p) O)
    rw [show off+(p * 1+0)=off+p by omega]
    exact h5
 refine (hA G.al w _ _ (#[x].map a.eval) hent (by simp) (fun j=>?_)).mono ?_
 ·rcases j with _|j
  ·simpa [fl] using harg
  ·show aP _ _ _ (fl [bc l] (j+1)) _
   rw [qK _ _ (by simp)]
   trivial
 ·rintro e w' ⟨v,r,H',St',rfl,⟨g2,rfl,rfl⟩,hv,hu,h3,h4,h5,h6⟩
  have hp':cY G.al St w' w.heap.size (fun _=>False) [(g2,.blk l.length (aV l))]:=by
   have ⟨fp',hp'⟩:=h6
   refine ⟨fp',fun j q r hj=>?_,hp'.dis,fun j b hb=>?_,hp'.out⟩
   ·have h7:=hp'.rep j q r hj
    rcases j with _|j
    ·simp at hj
     obtain ⟨rfl,rfl⟩:=hj
     cases g2 with
     | none=>exact h7
     | some g2=>exact h7
    ·simp at hj
   ·have ⟨c1,c2,c3⟩:=hp'.own j b hb
    exact ⟨c1,fun hs=>c2 (h3 b (.inl hs)),c3⟩
  refine ⟨hu.below,St,fun _ h=>h,_,hK g2,?_⟩
  have hv':aP G.al St w' (.os s.H.length g2 0 l.length 1) v:=by
   cases g2 with
   | none=>exact hv
   | some g2=>exact hv
  have:=(hr.after hu (fun _ h=>h) (fun b h=>.inl h) (fun b h=>Z4 (hr.s3 b h) hu.below.size) hp').put (dst:=o.dst) (dB hd) hv'
  cases ho:o.dst with
  | none=>rw [ho] at this;exact this
  | some d=>rw [ho] at this;exact this
theorem pP {f:FuncId} {x:Operand} {ats:Array TypeId} {l:I} {off N i d:Nat} {g:Option Nat} {F:Nat→CV} {env:List (Nat×CV)} {b0:Nat→CV} {H:List (Option Nat×aW)} (ho:o.op=.call ⟨.value (.func f),#[x],ats⟩) (hc:bA P f=true) (hx:(⟨env,b0,H⟩:AS).eval x=.os i g off l.length 1) (hH:H[i]?=some (g,.blk N F)) (hN:off+l.length≤N) (hF:∀ a,a<l.length→aa (F (off+a)) (aV l a))
  (hA:AC G.gs P f [] [bc l] (ss l.length 1 l.length (aV l))) (hd:o.dst=some d) (hdN:Nat.blt d G.N=true)
  (hK:∀ g2,K ⟨(d,.os H.length g2 0 l.length 1)::env,b0,H++[(g2,.blk l.length (aV l))]⟩):kP P G o ⟨env,b0,H⟩ K :=
 SB ho hc hx hH hN hF hA (kK hd hdN) fun g2=>by rw [dv hd];exact hK g2
theorem nF (l:I) (hl:l.length≤100000000000):AC gs prog 105 [] [bc l] (ss l.length 1 l.length (aV l)):=by
 refine ae 8 func105 fun _ _ _ _=>?_;refine U 167516 ?_;refine qj (aU rfl) rfl rfl rfl underlying23 rfl rfl (fun h357=>?_) ?_
 ·refine U 51690005 ?_;refine jE (mw 2 1 (aV l) rfl) ?_;refine U 30007000 ?_
  exact nA 0 (.inl rfl) (aK rfl (ai rfl)) rfl O O (fun _=>by omega) (fun j hj=>by omega)
 ·refine U 68103005 ?_
  refine aq (aM 0 1 da fun p1=>?_)
  refine U 1 ?_
  refine aw (ay (l:=[]) rfl rfl rfl (ZL _) (fun j hj=>absurd hj (ZO j)) (cX rfl) rfl (fun j hj=>by simp only [anx];exact Z) underlying23 dV fR da jt rfl (by (simp;omega)) (fun j hj=>rfl) rfl rfl (fun p2=>?_))
  refine U 700051 ?_
  exact nA 0 (.inl rfl) (aK rfl (ai rfl)) rfl (by simp) (by simp) (fun _=>by simp) (fun j hj=>Z)
end
section
variable {gs:List Nat} [ud gs]
theorem AH {ws:List Nat} {a8 a9 c8 c9 d8 d9:CV} {l:List CV} (hl:l=[hF ws a8 a9 (0+0),hF ws a8 a9 (0+1),hF ws a8 a9 (0+2),hF ws a8 a9 (0+3),hF ws a8 a9 (0+4),hF ws a8 a9 (0+5),hF ws a8 a9 (0+6),hF ws a8 a9 (0+7),c8,c9]) (h8:aa c8 d8) (h9:aa c9 d9) (j:Nat) (hj:j<10):aa (fl l j) (hF ws d8 d9 j):=by
 subst hl
 rcases j with _|_|_|_|_|_|_|_|_|_|j
 all_goals first|exact Z|exact h8|exact h9|omega
theorem SX {gs:List Nat} (n:Nat) (m:I) (hm:m.length≤100000000000):AC gs prog 247 [eQ n m] [.op 0 (some n) 0] (fun r H'=>∃ n2,r=.op 1 (some n2) 0∧H'=[ka [eQ n m,eQ n2 m]]):=by
 have hrl:=rO m
 refine ae 18 func247 fun _ _ _ _=>?_;refine oC 0 rfl fun g off=>?_;refine U 7516 ?_
 skip
 refine dQ (.rd 0 (.rd 1 (.rd 2 (.rd 4 (.rd 5 (.rd 6 (.rd 7 (.rd 9 (.rd 10 (.rd 11 (.three 3 (.two 8 (.one 12 (.rd 13 (.one 14 (.rd 15 .done)))) 12 (.one 8 (.rd 13 (.one 14 (.rd 15 .done))))) 8 (.two 3 (.one 12 (.rd 13 (.one 14 (.rd 15 .done)))) 12 (.one 3 (.rd 13 (.one 14 (.rd 15 .done))))) 12 (.two 3 (.one 8 (.rd 13 (.one 14 (.rd 15 .done)))) 8 (.one 3 (.rd 13 (.one 14 (.rd 15 .done)))))))))))))))) ?_;refine U 5000070 ?_;refine aJ (en 0 8 true) ?_;refine U 5000070 ?_;refine aJ (en 8 1 false) ?_;refine U 500007010000 ?_;refine aJ (en 9 1 false) ?_;refine Sb ?_ ?_ ?_
 ·refine zf (bD 8) ?_;refine ya ?_ ?_
  ·refine gp (pP rfl (by kernel_rfl) rfl rfl (ZA _) (fun a ha=>by rw [lj];exact Z) (nF (bV m) O) rfl rfl (fun g2=>?_))
   refine zf gy ?_;refine aJ (au (n:=10) rfl wP xC rfl rfl) ?_
   refine gp (ee 10 fun p1=>?_)
   refine U 88070 ?_;refine cL (ig 2 rfl) fun ⟨n2,hn2⟩=>?_
   subst hn2
   refine jE (cE 2 (0+(bV m).length) (de 0 (aV (bV m))) rfl (by simp) (fun j hj=>by unfold de;rw [jK,aJx];exact Z)) ?_;refine jE (cE 3 10 (hF (fo m) (.os 1 g2 0 (bV m).length 1) (.c (.int .i64 (m.length:Nat)))) rfl (ZA _) (fun j hj=>AH (a8:=.os 1 g off (bV m).length 1) (a9:=.c (.int .i64 (m.length:Nat))) (c8:=.os 2 g2 0 (bV m).length 1) (c9:=.c (.int .i64 (m.length:Nat))) (by kernel_rfl) (cO rfl) Z j hj)) ?_;refine jE (closeN (gd:=fun z:Nat×Option Nat×Nat=>z.1) (E:=kY m) (n,g,off) 0 [1] jD (by simp) rfl) ?_;refine jE (closeN (gd:=fun z:Nat×Option Nat×Nat=>z.1) (E:=kY m) (n2,g2,0) 3 [2] jD (by simp [kX]) rfl) ?_;refine U 7000 ?_
   exact bK (gd:=fun _:Unit=>0) (E:=fun _=>[eQ n m,eQ n2 m]) (.inl rfl) (.op 1 (some n2) 0) () [0,3] jD rfl ((aK (v:=.op 3 (some n2) 0) rfl (ai rfl)).ent cP) ⟨n2,rfl,rfl⟩
  ·refine zf gy ?_
   refine gp (pP rfl (by kernel_rfl) rfl rfl (ZA _) (fun a ha=>by rw [lj];exact Z) (nF (bV m) O) rfl rfl (fun g2=>?_))
   refine aJ (au (n:=10) rfl wP xC rfl rfl) ?_
   refine gp (ee 10 fun p1=>?_)
   refine U 88070 ?_;refine cL (ig 2 rfl) fun ⟨n2,hn2⟩=>?_
   subst hn2
   refine jE (cE 2 (0+(bV m).length) (de 0 (aV (bV m))) rfl (by simp) (fun j hj=>by unfold de;rw [jK,aJx];exact Z)) ?_;refine jE (cE 3 10 (hF (fo m) (.os 1 g2 0 (bV m).length 1) (.c (.int .i64 (m.length:Nat)))) rfl (ZA _) (fun j hj=>AH (a8:=.os 1 g off (bV m).length 1) (a9:=.c (.int .i64 (m.length:Nat))) (c8:=.os 2 g2 0 (bV m).length 1) (c9:=.c (.int .i64 (m.length:Nat))) (by kernel_rfl) (cO rfl) Z j hj)) ?_;refine jE (closeN (gd:=fun z:Nat×Option Nat×Nat=>z.1) (E:=kY m) (n,g,off) 0 [1] jD (by simp) rfl) ?_;refine jE (closeN (gd:=fun z:Nat×Option Nat×Nat=>z.1) (E:=kY m) (n2,g2,0) 3 [2] jD (by simp [kX]) rfl) ?_;refine U 7000 ?_
   exact bK (gd:=fun _:Unit=>0) (E:=fun _=>[eQ n m,eQ n2 m]) (.inl rfl) (.op 1 (some n2) 0) () [0,3] jD rfl ((aK (v:=.op 3 (some n2) 0) rfl (ai rfl)).ent cP) ⟨n2,rfl,rfl⟩
 ·refine gp (pP rfl (by kernel_rfl) rfl rfl (ZA _) (fun a ha=>by rw [lj];exact Z) (nF (bV m) O) rfl rfl (fun g2=>?_))
  refine ya ?_ ?_
  ·refine zf (bD 8) ?_;refine zf gy ?_;refine aJ (au (n:=10) rfl wP xC rfl rfl) ?_
   refine gp (ee 10 fun p1=>?_)
   refine U 88070 ?_;refine cL (ig 2 rfl) fun ⟨n2,hn2⟩=>?_
   subst hn2
   refine jE (cE 2 (0+(bV m).length) (de 0 (aV (bV m))) rfl (by simp) (fun j hj=>by unfold de;rw [jK,aJx];exact Z)) ?_;refine jE (cE 3 10 (hF (fo m) (.os 1 g2 0 (bV m).length 1) (.c (.int .i64 (m.length:Nat)))) rfl (ZA _) (fun j hj=>AH (a8:=.os 1 g off (bV m).length 1) (a9:=.c (.int .i64 (m.length:Nat))) (c8:=.os 2 g2 0 (bV m).length 1) (c9:=.c (.int .i64 (m.length:Nat))) (by kernel_rfl) (cO rfl) Z j hj)) ?_;refine jE (closeN (gd:=fun z:Nat×Option Nat×Nat=>z.1) (E:=kY m) (n,g,off) 0 [1] jD (by simp) rfl) ?_;refine jE (closeN (gd:=fun z:Nat×Option Nat×Nat=>z.1) (E:=kY m) (n2,g2,0) 3 [2] jD (by simp [kX]) rfl) ?_;refine U 7000 ?_
   exact bK (gd:=fun _:Unit=>0) (E:=fun _=>[eQ n m,eQ n2 m]) (.inl rfl) (.op 1 (some n2) 0) () [0,3] jD rfl ((aK (v:=.op 3 (some n2) 0) rfl (ai rfl)).ent cP) ⟨n2,rfl,rfl⟩
  ·refine zf gy ?_;refine zf (bD 8) ?_;refine aJ (au (n:=10) rfl wP xC rfl rfl) ?_
   refine gp (ee 10 fun p1=>?_)
   refine U 88070 ?_;refine cL (ig 2 rfl) fun ⟨n2,hn2⟩=>?_
   subst hn2
   refine jE (cE 2 (0+(bV m).length) (de 0 (aV (bV m))) rfl (by simp) (fun j hj=>by unfold de;rw [jK,aJx];exact Z)) ?_;refine jE (cE 3 10 (hF (fo m) (.os 1 g2 0 (bV m).length 1) (.c (.int .i64 (m.length:Nat)))) rfl (ZA _) (fun j hj=>AH (a8:=.os 1 g off (bV m).length 1) (a9:=.c (.int .i64 (m.length:Nat))) (c8:=.os 2 g2 0 (bV m).length 1) (c9:=.c (.int .i64 (m.length:Nat))) (by kernel_rfl) (cO rfl) Z j hj)) ?_;refine jE (closeN (gd:=fun z:Nat×Option Nat×Nat=>z.1) (E:=kY m) (n,g,off) 0 [1] jD (by simp) rfl) ?_;refine jE (closeN (gd:=fun z:Nat×Option Nat×Nat=>z.1) (E:=kY m) (n2,g2,0) 3 [2] jD (by simp [kX]) rfl) ?_;refine U 7000 ?_
   exact bK (gd:=fun _:Unit=>0) (E:=fun _=>[eQ n m,eQ n2 m]) (.inl rfl) (.op 1 (some n2) 0) () [0,3] jD rfl ((aK (v:=.op 3 (some n2) 0) rfl (ai rfl)).ent cP) ⟨n2,rfl,rfl⟩
 ·refine zf gy ?_;refine ya ?_ ?_
  ·refine zf (bD 8) ?_
   refine gp (pP rfl (by kernel_rfl) rfl rfl (ZA _) (fun a ha=>by rw [lj];exact Z) (nF (bV m) O) rfl rfl (fun g2=>?_))
   refine aJ (au (n:=10) rfl wP xC rfl rfl) ?_
   refine gp (ee 10 fun p1=>?_)
   refine U 88070 ?_;refine cL (ig 2 rfl) fun ⟨n2,hn2⟩=>?_
   subst hn2
   refine jE (cE 2 (0+(bV m).length) (de 0 (aV (bV m))) rfl (by simp) (fun j hj=>by unfold de;rw [jK,aJx];exact Z)) ?_;refine jE (cE 3 10 (hF (fo m) (.os 1 g2 0 (bV m).length 1) (.c (.int .i64 (m.length:Nat)))) rfl (ZA _) (fun j hj=>AH (a8:=.os 1 g off (bV m).length 1) (a9:=.c (.int .i64 (m.length:Nat))) (c8:=.os 2 g2 0 (bV m).length 1) (c9:=.c (.int .i64 (m.length:Nat))) (by kernel_rfl) (cO rfl) Z j hj)) ?_;refine jE (closeN (gd:=fun z:Nat×Option Nat×Nat=>z.1) (E:=kY m) (n,g,off) 0 [1] jD (by simp) rfl) ?_;refine jE (closeN (gd:=fun z:Nat×Option Nat×Nat=>z.1) (E:=kY m) (n2,g2,0) 3 [2] jD (by simp [kX]) rfl) ?_;refine U 7000 ?_
   exact bK (gd:=fun _:Unit=>0) (E:=fun _=>[eQ n m,eQ n2 m]) (.inl rfl) (.op 1 (some n2) 0) () [0,3] jD rfl ((aK (v:=.op 3 (some n2) 0) rfl (ai rfl)).ent cP) ⟨n2,rfl,rfl⟩
  ·refine gp (pP rfl (by kernel_rfl) rfl rfl (ZA _) (fun a ha=>by rw [lj];exact Z) (nF (bV m) O) rfl rfl (fun g2=>?_))
   refine zf (bD 8) ?_;refine aJ (au (n:=10) rfl wP xC rfl rfl) ?_
   refine gp (ee 10 fun p1=>?_)
   refine U 88070 ?_;refine cL (ig 2 rfl) fun ⟨n2,hn2⟩=>?_
   subst hn2
   refine jE (cE 2 (0+(bV m).length) (de 0 (aV (bV m))) rfl (by simp) (fun j hj=>by unfold de;rw [jK,aJx];exact Z)) ?_;refine jE (cE 3 10 (hF (fo m) (.os 1 g2 0 (bV m).length 1) (.c (.int .i64 (m.length:Nat)))) rfl (ZA _) (fun j hj=>AH (a8:=.os 1 g off (bV m).length 1) (a9:=.c (.int .i64 (m.length:Nat))) (c8:=.os 2 g2 0 (bV m).length 1) (c9:=.c (.int .i64 (m.length:Nat))) (by kernel_rfl) (cO rfl) Z j hj)) ?_;refine jE (closeN (gd:=fun z:Nat×Option Nat×Nat=>z.1) (E:=kY m) (n,g,off) 0 [1] jD (by simp) rfl) ?_;refine jE (closeN (gd:=fun z:Nat×Option Nat×Nat=>z.1) (E:=kY m) (n2,g2,0) 3 [2] jD (by simp [kX]) rfl) ?_;refine U 7000 ?_
   exact bK (gd:=fun _:Unit=>0) (E:=fun _=>[eQ n m,eQ n2 m]) (.inl rfl) (.op 1 (some n2) 0) () [0,3] jD rfl ((aK (v:=.op 3 (some n2) 0) rfl (ai rfl)).ent cP) ⟨n2,rfl,rfl⟩
end
end Am
end Go.Proofs.YtghminnpfnkbjaaGreatDoor
