/- What the law leans on, part 12: W08t, W05i, W08s7, W09u, W19a, W19b, W19c, W11w, W11g, P12r, P12s, P12b, W11h, W08s9, W11v, W11s, L11, W11j, W12a, W12g, W12s, AmW, P01, P01b, W01r, W01a -/
import Derived.Test.YtghminnpfnkbjaaGreatDoorM11RequestRead

set_option maxRecDepth 100000
set_option maxHeartbeats 8000000
namespace Go.Proofs.YtghminnpfnkbjaaGreatDoor
set_option linter.unusedVariables false
namespace Am
open Go.RowKit
section
variable {gs:List Nat} [gQ gs]
open Go.RowKit Cal

theorem pY {tag:Int} {l:YD} {k:Nat} (h:k≠0):ab tag l k=⟨l,k,0,[],[],false⟩:=by unfold ab;rw [YF h]
theorem Iq {a:AA} {l:YD} {k:Nat} (h:k≠0):ac a l k=⟨l,k,VV.none⟩:=by
 have hm:bN l k=false:=by unfold bN;simp [h]
 have he:ae a.tag l k=⟨l,k,0,[],[],false⟩:=by unfold ae;rw [hm,YE (by simp)];exact pY h
 unfold ac
 split
 ·unfold ah;rw [he];rfl
 ·split
  ·have:aC l k=k:=by unfold aC;rw [YF h]
   unfold bb
   rw [this,YE h]
  ·split
   ·rw [pY h];rfl
   ·unfold eH eF
    rw [pY h]
    simp
theorem TI {a:AA} (h1:3≤a.kind) (h2:a.kind≤9):fl [CV.c (.int .i64 2),.c (.int .i64 10),.c (.int .i64 1),.c (.int .i64 4),.c (.int .i64 12),.c (.int .i64 6),.c (.int .i64 24)] ((a.kind-3).toNat)=.c (.int .i64 (bR a)):=by
 obtain h|h|h|h|h|h|h:a.kind=3∨a.kind=4∨a.kind=5∨a.kind=6∨a.kind=7∨a.kind=8∨a.kind=9:=by omega
 all_goals (unfold bR;rw [h];rfl)
theorem Nb {l:YD} {m i:Nat} (h:i<m):aV (l.getD (0+i) [])=aV ((l.take m).getD i []):=by
 simp [YH,h]
theorem uq {a:AA} {l:YD} (h:a.kind=1) (h0:¬(bN l 0=true∧bQ a.tag=false)):ac a l 0=⟨if (ab a.tag l 0).is=true then (ab a.tag l 0).l++[(ab a.tag l 0).body] else (ab a.tag l 0).l,(ab a.tag l 0).k,vI (ab a.tag l 0).is⟩:=by
 have hE:ae a.tag l 0=ab a.tag l 0:=by unfold ae;rw [YE h0]
 unfold ac ah
 rw [YF h,hE]
theorem Ir {a:AA} {l:YD} (h:a.kind=1) (h0:bN l 0=true∧bQ a.tag=false):ac a l 0=⟨l,5,vI false⟩:=by
 have hE:ae a.tag l 0=⟨l,5,0,[],[],false⟩:=by unfold ae;rw [YF h0];exact pY jD
 unfold ac ah
 rw [YF h,hE]
 rfl
theorem eR {a:AA} {l:YD} (h:a.kind=2) {e:Nat} (he:aC l 0=e):ac a l 0=⟨if e=0 then l.take (l.length-1) else l,e,VV.none⟩:=by
 unfold ac bb
 rw [jK,YF h,he]
theorem gV {a:AA} {l:YD} (h1:a.kind≠1) (h2:a.kind≠2) (h3:a.kind≠11):ac a l 0=eH (bR a) (saidM a) l 0:=by
 unfold ac
 rw [YE h1,YE h2,YE h3]
theorem CE {gs:List Nat} (n:Nat) (l:YD) (k:Nat) (a:AA) (hl:0<l.length∧l.length≤1000000) (hb:(aB l).length≤1000000) (hS:a.kind≠1→a.kind≠2→a.kind≠11→∀ b:Z,b.length≤1000000→AC gs Tryz.prog 141 [] [nu a,aV b] (jt a b)):AC gs Tryz.prog 74 [vd n l k] [.op 0 (some n) 0,nu a] (fun r H'=>r=gR (ac a l k).v∧H'=[vd n (ac a l k).l (ac a l k).k]):=by
 have hbd:=ek (aB l)
 have hn1:(ab a.tag l 0).l.length=l.length:=pX
 have hbb:(ab (bR a) l 0).body.length≤1000000:=by
  unfold ab
  repeat' split
  all_goals (simp only [List.length_nil];omega)
 refine aj 160 Tryz.func74 fun al w0 F0 St0=>?_;refine dP ?_
 refine au (ff 4 fun p1=>?_)
 refine au (cl (n:=5) eQ rfl fun p2=>?_)
 refine U 65 ?_;refine jq (ai (n:=5) rfl eQ ib rfl rfl) ?_
 refine au (cl (n:=5) eQ rfl fun p3=>?_)
 refine aq (aA 5 ?_)
 refine U 5250100401675 ?_;refine ap (fun h199=>?_) fun h199=>?_
 ·refine dP ?_;refine gw (bq 5) ?_
  refine aq (aA 5 ?_)
  refine U 300070005 ?_
  rw [Iq O]
  exact aJ (.inl rfl) rfl (av rfl (bD 5)) iD
 refine U 7810 ?_
 obtain rfl:k=0:=by omega
 refine jE (freeze 1 rfl) ?_;refine jE (lD 3 (m:=4) rfl rfl jD) ?_
 dsimp only [List.set_cons_zero,List.set_cons_succ,List.cons_append,List.nil_append,List.length_cons,List.length_nil,Nat.zero_add,Nat.reduceAdd]
 refine U 512620560906 ?_;refine ap (fun h203=>?_) fun h203=>?_
 ·refine U 77 ?_;refine dY (.rd 0 (.rd 1 (.rd 2 (.rd 3 (.rd 4 (.rd 5 (.rd 6 (.rd 7 (.rd 8 (.rd 9 (.rd 10 (.rd 11 (.rd 12 (.rd 13 (.rd 14 (.rd 15 (.rd 16 (.one 17 (.rd 18 (.rd 19 .done)))))))))))))))))))) ?_;refine U 3000020000100009000005000070100009000005000070 ?_;refine aM (dU (i:=(l.length-1)) (hz:=by omega)) ?_;refine U 708002000070000 ?_;refine Jk 44 (fun g204=>?_) fun g204=>?_
  rotate_left
  ·refine U 600600 ?_;refine Ww ?_;refine U 810300880300000600 ?_
   have hR:=uq (a:=a) (l:=l) O (by simp_all [bN,bQ,aB])
   refine U 6010016 ?_
   refine aq (aQ 0 (jH n l 0 a.tag hl O) ?_)
   refine U 516751119009009001 ?_;refine ap (fun h209=>?_) fun h209=>?_
   rotate_left
   ·refine U 810 ?_
    first
     |(refine jE (freeze 4 rfl) ?_;refine jE (thawC 0 0 4 (vc ([]++(ab a.tag l 0).l++[(ab a.tag l 0).body]) (ab a.tag l 0).k) (fun i _=>aV (([]++(ab a.tag l 0).l++[(ab a.tag l 0).body]).getD i [])) rfl rfl I I (fun j hj h0=>by rcases j with _|_|j <;> first|omega|exact I) (by simp) (fun a c ha hc=>by obtain rfl:c=0:=O;rw [Nat.zero_add,Ze,Zt];exact I)) ?_;dsimp only [List.set_cons_zero,List.set_cons_succ,List.cons_append,List.nil_append,List.length_cons,List.length_nil,Nat.zero_add,Nat.reduceAdd];have hL:(if (ab a.tag l 0).is=true then (ab a.tag l 0).l++[(ab a.tag l 0).body] else (ab a.tag l 0).l)=[]++(ab a.tag l 0).l++[(ab a.tag l 0).body]:=by rw [YF (by simpa using h209)];rfl)
     |(have hL:(if (ab a.tag l 0).is=true then (ab a.tag l 0).l++[(ab a.tag l 0).body] else (ab a.tag l 0).l)=(ab a.tag l 0).l:=by rw [YE (by simpa using h209)])
    refine U 16 ?_;refine jq (ai (n:=5) rfl eQ ib rfl rfl) ?_
    refine aq (aA 5 ?_)
    refine U 3000500070005 ?_
    rw [hR,hL]
    exact aJ (.inl rfl) rfl (av rfl (bD 5)) iD
   refine U 1200 ?_
   refine au (aY 0 1 eK fun p5=>?_)
   refine U 5090401 ?_
   refine aq (aF (l:=[]) ( en) rfl rfl rfl rfl (ZR (ZQ _)) (fun j hj=>absurd hj (by simp)) (ew rfl) rfl (fun j hj=>by (simp only [ZN];exact I)) Tryz.underlying138 jf nC eK ol rfl (by (simp;omega)) (by (simp;omega)) (fun j hj=>rfl) rfl rfl rfl (fun p6=>?_))
   refine U 1 ?_
   refine au (aY 1 1 eK fun p7=>?_)
   refine aq (aF (en) (l2:=[(ab a.tag l 0).body]) rfl rfl rfl rfl (by exact YG _) (fun _ _=>I) (aW rfl (.inl rfl) jD) rfl (fun j hj=>by rcases j with _|j <;> first|exact I|(exfalso;simp at hj <;> omega)) Tryz.underlying138 jf nC eK ol rfl (by (simp;omega)) (by (simp;omega)) (bC rfl rfl) rfl rfl rfl (fun p8=>?_))
   refine U 9040 ?_
   refine aq (aA 1 ?_)
   refine U 85 ?_
   first
    |(refine jE (freeze 4 rfl) ?_;refine jE (thawC 0 0 4 (vc ([]++(ab a.tag l 0).l++[(ab a.tag l 0).body]) (ab a.tag l 0).k) (fun i _=>aV (([]++(ab a.tag l 0).l++[(ab a.tag l 0).body]).getD i [])) rfl rfl I I (fun j hj h0=>by rcases j with _|_|j <;> first|omega|exact I) (by simp) (fun a c ha hc=>by obtain rfl:c=0:=O;rw [Nat.zero_add,Ze,Zt];exact I)) ?_;dsimp only [List.set_cons_zero,List.set_cons_succ,List.cons_append,List.nil_append,List.length_cons,List.length_nil,Nat.zero_add,Nat.reduceAdd];have hL:(if (ab a.tag l 0).is=true then (ab a.tag l 0).l++[(ab a.tag l 0).body] else (ab a.tag l 0).l)=[]++(ab a.tag l 0).l++[(ab a.tag l 0).body]:=by rw [YF (by simpa using h209)];rfl)
    |(have hL:(if (ab a.tag l 0).is=true then (ab a.tag l 0).l++[(ab a.tag l 0).body] else (ab a.tag l 0).l)=(ab a.tag l 0).l:=by rw [YE (by simpa using h209)])
   refine U 16 ?_;refine jq (ai (n:=5) rfl eQ ib rfl rfl) ?_
   refine aq (aA 5 ?_)
   refine U 3000500070005 ?_
   rw [hR,hL]
   exact aJ (.inl rfl) rfl (av rfl (bD 5)) iD
  refine U 700008000000 ?_
  refine ir (ar (wn a.tag) ?_)
  refine U 8803000000100000 ?_;refine ap (fun h204=>?_) fun h204=>?_
  ·refine U 1004016 ?_
   refine aq (bo 1 (vc l 5) ?_ ?_)
   ·exact oB
   refine U 65 ?_;refine gw (bq 5) ?_
   refine aq (aA 5 ?_)
   refine U 30005000300070005 ?_
   rw [Ir O (by simp_all [bN,bQ,aB])]
   exact aJ (.inl rfl) rfl (av rfl (bD 5)) iD
  refine U 810 ?_
  have hR:=uq (a:=a) (l:=l) O (by simp_all [bN,bQ,aB])
  refine U 6010016 ?_
  refine aq (aQ 0 (jH n l 0 a.tag hl O) ?_)
  refine U 516751119009009001 ?_;refine ap (fun h209=>?_) fun h209=>?_
  rotate_left
  ·refine U 810 ?_
   first
    |(refine jE (freeze 4 rfl) ?_;refine jE (thawC 0 0 4 (vc ([]++(ab a.tag l 0).l++[(ab a.tag l 0).body]) (ab a.tag l 0).k) (fun i _=>aV (([]++(ab a.tag l 0).l++[(ab a.tag l 0).body]).getD i [])) rfl rfl I I (fun j hj h0=>by rcases j with _|_|j <;> first|omega|exact I) (by simp) (fun a c ha hc=>by obtain rfl:c=0:=O;rw [Nat.zero_add,Ze,Zt];exact I)) ?_;dsimp only [List.set_cons_zero,List.set_cons_succ,List.cons_append,List.nil_append,List.length_cons,List.length_nil,Nat.zero_add,Nat.reduceAdd];have hL:(if (ab a.tag l 0).is=true then (ab a.tag l 0).l++[(ab a.tag l 0).body] else (ab a.tag l 0).l)=[]++(ab a.tag l 0).l++[(ab a.tag l 0).body]:=by rw [YF (by simpa using h209)];rfl)
    |(have hL:(if (ab a.tag l 0).is=true then (ab a.tag l 0).l++[(ab a.tag l 0).body] else (ab a.tag l 0).l)=(ab a.tag l 0).l:=by rw [YE (by simpa using h209)])
   refine U 16 ?_;refine jq (ai (n:=5) rfl eQ ib rfl rfl) ?_
   refine aq (aA 5 ?_)
   refine U 3000500070005 ?_
   rw [hR,hL]
   exact aJ (.inl rfl) rfl (av rfl (bD 5)) iD
  refine U 1200 ?_
  refine au (aY 0 1 eK fun p5=>?_)
  refine U 5090401 ?_
  refine aq (aF (l:=[]) ( en) rfl rfl rfl rfl (ZR (ZQ _)) (fun j hj=>absurd hj (by simp)) (ew rfl) rfl (fun j hj=>by (simp only [ZN];exact I)) Tryz.underlying138 jf nC eK ol rfl (by (simp;omega)) (by (simp;omega)) (fun j hj=>rfl) rfl rfl rfl (fun p6=>?_))
  refine U 1 ?_
  refine au (aY 1 1 eK fun p7=>?_)
  refine aq (aF (en) (l2:=[(ab a.tag l 0).body]) rfl rfl rfl rfl (by exact YG _) (fun _ _=>I) (aW rfl (.inl rfl) jD) rfl (fun j hj=>by rcases j with _|j <;> first|exact I|(exfalso;simp at hj <;> omega)) Tryz.underlying138 jf nC eK ol rfl (by (simp;omega)) (by (simp;omega)) (bC rfl rfl) rfl rfl rfl (fun p8=>?_))
  refine U 9040 ?_
  refine aq (aA 1 ?_)
  refine U 85 ?_
  first
   |(refine jE (freeze 4 rfl) ?_;refine jE (thawC 0 0 4 (vc ([]++(ab a.tag l 0).l++[(ab a.tag l 0).body]) (ab a.tag l 0).k) (fun i _=>aV (([]++(ab a.tag l 0).l++[(ab a.tag l 0).body]).getD i [])) rfl rfl I I (fun j hj h0=>by rcases j with _|_|j <;> first|omega|exact I) (by simp) (fun a c ha hc=>by obtain rfl:c=0:=O;rw [Nat.zero_add,Ze,Zt];exact I)) ?_;dsimp only [List.set_cons_zero,List.set_cons_succ,List.cons_append,List.nil_append,List.length_cons,List.length_nil,Nat.zero_add,Nat.reduceAdd];have hL:(if (ab a.tag l 0).is=true then (ab a.tag l 0).l++[(ab a.tag l 0).body] else (ab a.tag l 0).l)=[]++(ab a.tag l 0).l++[(ab a.tag l 0).body]:=by rw [YF (by simpa using h209)];rfl)
   |(have hL:(if (ab a.tag l 0).is=true then (ab a.tag l 0).l++[(ab a.tag l 0).body] else (ab a.tag l 0).l)=(ab a.tag l 0).l:=by rw [YE (by simpa using h209)])
  refine U 16 ?_;refine jq (ai (n:=5) rfl eQ ib rfl rfl) ?_
  refine aq (aA 5 ?_)
  refine U 3000500070005 ?_
  rw [hR,hL]
  exact aJ (.inl rfl) rfl (av rfl (bD 5)) iD
 refine U 5126 ?_;refine ap (fun h213=>?_) fun h213=>?_
 ·refine U 52167519350904016 ?_;refine ap (fun h215=>?_) fun h215=>?_
  ·refine U 100401200 ?_
   refine aq (bo 1 (vc l 24) ?_ ?_)
   ·exact oB
   refine U 685 ?_;refine gw (bq 5) ?_
   refine aq (aA 5 ?_)
   refine U 3000500070005 ?_
   first
    | rw [eR (e:=24) O (by unfold aC;rw [YE jD,jP]),YE jD]
    | rw [eR (e:=4) O (by unfold aC aB;rw [YE jD,jK,jP]),YE jD]
    | rw [eR (e:=0) O (by unfold aC aB;rw [YE jD,jK,jK]),YF rfl]
   exact aJ (.inl rfl) rfl (av rfl (bD 5)) iD
  refine U 150904016 ?_;refine jq (dU (i:=(l.length-1)) (hz:=by omega)) ?_;refine U 52360 ?_;refine ap (fun h217=>?_) fun h217=>?_
  ·refine U 100401200 ?_
   refine aq (bo 1 (vc l 4) ?_ ?_)
   ·exact oB
   refine U 685 ?_;refine gw (bq 5) ?_
   refine aq (aA 5 ?_)
   refine U 3000500070005 ?_
   first
    | rw [eR (e:=24) O (by unfold aC;rw [YE jD,jP]),YE jD]
    | rw [eR (e:=4) O (by unfold aC aB;rw [YE jD,jK,jP]),YE jD]
    | rw [eR (e:=0) O (by unfold aC aB;rw [YE jD,jK,jK]),YF rfl]
   exact aJ (.inl rfl) rfl (av rfl (bD 5)) iD
  refine U 150904011200 ?_;refine jq (Jl (hl:=(bG _ _)) (hu:=(cw rfl (show _=(((l.length-1):Nat):Int) by omega)))) ?_;refine U 9040 ?_
  refine aq (bo 1 (vc (l.take (l.length-1)) 0) ?_ ?_)
  ·exact (fun j hj=>by rcases j with _|_|j <;> first|exact aa.rs (by rw [YS];omega) (fun i q hi hq=>aa.of_eq (Nb hi))|exact I)
  refine U 685 ?_;refine gw (bq 5) ?_
  refine aq (aA 5 ?_)
  refine U 3000500070005 ?_
  first
   | rw [eR (e:=24) O (by unfold aC;rw [YE jD,jP]),YE jD]
   | rw [eR (e:=4) O (by unfold aC aB;rw [YE jD,jK,jP]),YE jD]
   | rw [eR (e:=0) O (by unfold aC aB;rw [YE jD,jK,jK]),YF rfl]
  exact aJ (.inl rfl) rfl (av rfl (bD 5)) iD
 refine U 5126 ?_;refine ap (fun h223=>?_) fun h223=>?_
 ·refine U 16 ?_
  refine aq (aQ 0 (jH n l 0 0 hl O) ?_)
  refine U 1651119009009001 ?_;refine jq (ai (n:=5) rfl eQ ib rfl rfl) ?_
  refine aq (aA 5 ?_)
  refine U 3000500070005 ?_
  rw [show ac a l 0=⟨(ab 0 l 0).l,(ab 0 l 0).k,vB (ab 0 l 0).raw⟩ by unfold ac;rw [jK,jK,jP]]
  exact aJ (.inl rfl) rfl (av rfl (bD 5)) iD
 refine U 12609067516840010 ?_;refine aK 125 (fun g228=>?_) fun g228=>?_
 rotate_left
 ·refine U 8103005500444 ?_
  first
   | refine jE (aS 13 (.c (.int .i64 (bR a))) I) ?_
   | refine jE (aS 13 (.c (.int .i64 (bR a))) (cI (by unfold bR;rw [jK,jK,jK,jK,jK,jK,jK]))) ?_
  refine U 116 ?_
  refine aq (aQ 0 (jH n l 0 (bR a) hl O) ?_)
  refine U 53016751119009009001 ?_;refine ap (fun h232=>?_) fun h232=>?_
  ·refine dP ?_;refine gw (bq 5) ?_
   refine aq (aA 5 ?_)
   refine U 300070005 ?_
   rw [gV O O O,show eH (bR a) (saidM a) l 0=⟨(ab (bR a) l 0).l,(ab (bR a) l 0).k,VV.none⟩ by unfold eH eF;rw [YE (by simp_all),YE (by simp_all)]]
   exact aJ (.inl rfl) rfl (av rfl (bD 5)) iD
  refine U 810 ?_
  have his:=m7 (tag:=bR a) (l:=l) (k:=0) (by simpa using h232)
  have hit:(ab (bR a) l 0).is=true:=by simpa using h232
  refine dP ?_;refine jq (mn 4) ?_;refine U 1 ?_
  refine au (ry (hS O O O (ab (bR a) l 0).body hbb) ?_)
  rintro _ _ ⟨⟨v,rfl,hv⟩,rfl⟩
  refine U 9009001 ?_
  refine au (cl (n:=5) eQ rfl fun p5=>?_)
  refine aq (aA 5 ?_)
  refine U 5216751 ?_;refine ap (fun h236=>?_) fun h236=>?_
  rotate_left
  ·refine U 6810 ?_;refine gw (bq 5) ?_
   refine aq (aA 5 ?_)
   refine U 70005 ?_
   have he0:(saidM a (ab (bR a) l 0).body).2=0:=by omega
   rw [gV O O O,show eH (bR a) (saidM a) l 0=⟨(ab (bR a) l 0).l,(ab (bR a) l 0).k,v⟩ by unfold eH eF;rw [YF hit,YF ⟨hit,he0⟩,hv he0];show Vv.mk _ (saidM a (ab (bR a) l 0).body).2 _=_;rw [he0,his.1]]
   exact aJ (.inl rfl) rfl (av rfl (bD 5)) iD
  refine U 10040116 ?_
  refine aq (bo 1 (vc (ab (bR a) l 0).l (saidM a (ab (bR a) l 0).body).2) ?_ ?_)
  ·exact oB
  refine U 65 ?_;refine gw (bq 5) ?_
  refine aq (aA 5 ?_)
  refine U 300070005 ?_
  rw [gV O O O,show eH (bR a) (saidM a) l 0=⟨(ab (bR a) l 0).l,(saidM a (ab (bR a) l 0).body).2,VV.none⟩ by unfold eH eF;rw [YF hit,YE (by intro h;omega)]]
  exact aJ (.inl rfl) rfl (av rfl (bD 5)) iD
 refine U 510000000026090 ?_;refine ap (fun h228=>?_) fun h228=>?_
 rotate_left
 ·refine U 810 ?_
  first
   | refine jE (aS 13 (.c (.int .i64 (bR a))) I) ?_
   | refine jE (aS 13 (.c (.int .i64 (bR a))) (cI (by unfold bR;rw [jK,jK,jK,jK,jK,jK,jK]))) ?_
  refine U 116 ?_
  refine aq (aQ 0 (jH n l 0 (bR a) hl O) ?_)
  refine U 53016751119009009001 ?_;refine ap (fun h232=>?_) fun h232=>?_
  ·refine dP ?_;refine gw (bq 5) ?_
   refine aq (aA 5 ?_)
   refine U 300070005 ?_
   rw [gV O O O,show eH (bR a) (saidM a) l 0=⟨(ab (bR a) l 0).l,(ab (bR a) l 0).k,VV.none⟩ by unfold eH eF;rw [YE (by simp_all),YE (by simp_all)]]
   exact aJ (.inl rfl) rfl (av rfl (bD 5)) iD
  refine U 810 ?_
  have his:=m7 (tag:=bR a) (l:=l) (k:=0) (by simpa using h232)
  have hit:(ab (bR a) l 0).is=true:=by simpa using h232
  refine dP ?_;refine jq (mn 4) ?_;refine U 1 ?_
  refine au (ry (hS O O O (ab (bR a) l 0).body hbb) ?_)
  rintro _ _ ⟨⟨v,rfl,hv⟩,rfl⟩
  refine U 9009001 ?_
  refine au (cl (n:=5) eQ rfl fun p5=>?_)
  refine aq (aA 5 ?_)
  refine U 5216751 ?_;refine ap (fun h236=>?_) fun h236=>?_
  rotate_left
  ·refine U 6810 ?_;refine gw (bq 5) ?_
   refine aq (aA 5 ?_)
   refine U 70005 ?_
   have he0:(saidM a (ab (bR a) l 0).body).2=0:=by omega
   rw [gV O O O,show eH (bR a) (saidM a) l 0=⟨(ab (bR a) l 0).l,(ab (bR a) l 0).k,v⟩ by unfold eH eF;rw [YF hit,YF ⟨hit,he0⟩,hv he0];show Vv.mk _ (saidM a (ab (bR a) l 0).body).2 _=_;rw [he0,his.1]]
   exact aJ (.inl rfl) rfl (av rfl (bD 5)) iD
  refine U 10040116 ?_
  refine aq (bo 1 (vc (ab (bR a) l 0).l (saidM a (ab (bR a) l 0).body).2) ?_ ?_)
  ·exact oB
  refine U 65 ?_;refine gw (bq 5) ?_
  refine aq (aA 5 ?_)
  refine U 300070005 ?_
  rw [gV O O O,show eH (bR a) (saidM a) l 0=⟨(ab (bR a) l 0).l,(saidM a (ab (bR a) l 0).body).2,VV.none⟩ by unfold eH eF;rw [YF hit,YE (by intro h;omega)]]
  exact aJ (.inl rfl) rfl (av rfl (bD 5)) iD
 refine X3 ?_
 refine au (aY 7 1 uh fun p4=>?_)
 refine U 96090 ?_;refine jq (dU (i:=(a.kind-3).toNat) (hz:=by omega)) ?_;refine gw (gm (hv:=TI O O)) ?_;refine U 851 ?_
 first
  | refine jE (aS 13 (.c (.int .i64 (bR a))) I) ?_
  | refine jE (aS 13 (.c (.int .i64 (bR a))) (cI (by unfold bR;rw [jK,jK,jK,jK,jK,jK,jK]))) ?_
 refine U 116 ?_
 refine aq (aQ 0 (jH n l 0 (bR a) hl O) ?_)
 refine U 53016751119009009001 ?_;refine ap (fun h232=>?_) fun h232=>?_
 ·refine dP ?_;refine gw (bq 5) ?_
  refine aq (aA 5 ?_)
  refine U 300070005 ?_
  rw [gV O O O,show eH (bR a) (saidM a) l 0=⟨(ab (bR a) l 0).l,(ab (bR a) l 0).k,VV.none⟩ by unfold eH eF;rw [YE (by simp_all),YE (by simp_all)]]
  exact aJ (.inl rfl) rfl (av rfl (bD 5)) iD
 refine U 810 ?_
 have his:=m7 (tag:=bR a) (l:=l) (k:=0) (by simpa using h232)
 have hit:(ab (bR a) l 0).is=true:=by simpa using h232
 refine dP ?_;refine jq (mn 4) ?_;refine U 1 ?_
 refine au (ry (hS O O O (ab (bR a) l 0).body hbb) ?_)
 rintro _ _ ⟨⟨v,rfl,hv⟩,rfl⟩
 refine U 9009001 ?_
 refine au (cl (n:=5) eQ rfl fun p6=>?_)
 refine aq (aA 5 ?_)
 refine U 5216751 ?_;refine ap (fun h236=>?_) fun h236=>?_
 rotate_left
 ·refine U 6810 ?_;refine gw (bq 5) ?_
  refine aq (aA 5 ?_)
  refine U 70005 ?_
  have he0:(saidM a (ab (bR a) l 0).body).2=0:=by omega
  rw [gV O O O,show eH (bR a) (saidM a) l 0=⟨(ab (bR a) l 0).l,(ab (bR a) l 0).k,v⟩ by unfold eH eF;rw [YF hit,YF ⟨hit,he0⟩,hv he0];show Vv.mk _ (saidM a (ab (bR a) l 0).body).2 _=_;rw [he0,his.1]]
  exact aJ (.inl rfl) rfl (av rfl (bD 5)) iD
 refine U 10040116 ?_
 refine aq (bo 1 (vc (ab (bR a) l 0).l (saidM a (ab (bR a) l 0).body).2) ?_ ?_)
 ·exact oB
 refine U 65 ?_;refine gw (bq 5) ?_
 refine aq (aA 5 ?_)
 refine U 300070005 ?_
 rw [gV O O O,show eH (bR a) (saidM a) l 0=⟨(ab (bR a) l 0).l,(saidM a (ab (bR a) l 0).body).2,VV.none⟩ by unfold eH eF;rw [YF hit,YE (by intro h;omega)]]
 exact aJ (.inl rfl) rfl (av rfl (bD 5)) iD
end
section
variable {gs:List Nat}

theorem yD {c:UInt8} (x:Z):∀ l:YD,l≠[]→jx c (l++[x])=jx c l++c::x
 | [],h=>absurd rfl h
 | [p],_=>rfl
 | p::q::r,_=>by
  have ih:=yD (c:=c) x (q::r) (by simp)
  rw [List.cons_append,List.cons_append,jx,← List.cons_append,ih,jx,Zb];rfl
theorem Ca {l:List Int} {i:Nat} (h:i<l.length):kG (l.take (i+1))=if 0<i then kG (l.take i)++[46]++mv (l.getD i 0).toNat else mv (l.getD i 0).toNat:=by
 unfold kG
 rw [Cl h]
 split
 ·rename_i h0
  rw [yD _ _ (by intro e;have:=Y3 List.length e;rw [Zy,YS,List.length_nil] at this;omega)]
  simp
 ·rename_i h0
  obtain rfl:i=0:=by omega
  rfl
theorem Ic (l:List Int) (hr:dj l=true):cc gs Tryz.prog 186 [Ju l] (an (kG l)):=by
 obtain ⟨hl2,hl16,hall,ha,hb⟩:=kk hr
 refine aj 23 Tryz.func186 fun al w0 F0 St0=>?_;refine U 20513167516516 ?_;refine ax (α:=Nat) [3,4,5,8,9,10,11,12,13,14,15,16,17,18,19,20,21] (fun i=>[(8,.c (.int .i64 (i:Nat))),(3,an (kG (l.take i)))]) (fun _=>[]) (fun i=>i≤l.length) (fun i=>l.length-i) (0) ?_ (fun _=>rfl) ?_ ?_ ?_
 ·exact YT _
 ·(repeat (first|exact bz.nil|refine bz.cons I ?_))
 ·(repeat (exact aP.nil))
 ·rintro i (hi:i≤l.length)
  have hj:=xb (c:=46) (m:=10) (ls:=(l.take i).map fun n=>mv n.toNat) (fun p hp=>by
   obtain ⟨n,hn,rfl⟩:=aBx.1 hp
   exact lf 9 n.toNat (by have:=hall n (bnx hn);omega))
  have hj2:(kG (l.take i)).length≤11 * 16:=by
   rw [Zy,YS] at hj
   unfold kG;omega
  refine U 7526 ?_;refine ap (fun h53=>?_) fun h53=>?_
  rotate_left
  ·refine U 511684000200020006000 ?_
   refine jR (eA (hv:=aa.strL (by rw [show i=l.length by omega,Za])))
  refine U 521675116070016207810 ?_;refine ap (fun h54=>?_) fun h54=>?_
  rotate_left
  ·refine U 810 ?_
   have hn:=hall _ (eO (l:=l) (k:=i) 0 O)
   have hd:=lf 9 (l.getD i 0).toNat O
   refine U 11200 ?_
   refine au (ar (Gc (l.getD i 0).toNat O) ?_ (ho:=rfl) (he:=(.cons (se rfl (cI O)) .nil)))
   refine jq (Nt (hS:=by (omega))) ?_;refine U 8519200840051 ?_
   refine aw (i+1) ?_ ?_ (h5:=?_)
   ·show i+1≤l.length;omega
   ·show l.length-(i+1)<l.length-i;omega
   ·exact .cons (cI O) (.cons (aa.strL (by rw [Ca O];(rw [jK];obtain rfl:i=0:=O;rfl))) .nil)
  refine U 1200 ?_;refine jq (Nt (hS:=by ((simp only [List.length_cons,List.length_nil];omega)))) ?_;refine U 851 ?_
  have hn:=hall _ (eO (l:=l) (k:=i) 0 O)
  have hd:=lf 9 (l.getD i 0).toNat O
  refine U 11200 ?_
  refine au (ar (Gc (l.getD i 0).toNat O) ?_ (ho:=rfl) (he:=(.cons (se rfl (cI O)) .nil)))
  refine jq (Nt (hS:=by ((simp only [YI,List.length_cons,List.length_nil];omega)))) ?_;refine U 8519200840051 ?_
  refine aw (i+1) ?_ ?_ (h5:=?_)
  ·show i+1≤l.length;omega
  ·show l.length-(i+1)<l.length-i;omega
  ·exact .cons (cI O) (.cons (aa.strL (by rw [Ca O];rw [jP])) .nil)
end
section
open Go.RowKit Cal
theorem EC {gs:List Nat} (a:AA) (b:Z) (h78:a.kind=7∨a.kind=8) (hb:b.length≤1000000):AC gs Tryz.prog 141 [] [nu a,aV b] (jt a b):=by
 refine aj 126 Tryz.func141 fun al w0 F0 St0=>?_;refine dP ?_
 refine au (ff 4 fun p1=>?_)
 refine au (cl (n:=5) eQ rfl fun p2=>?_)
 refine U 5126720550906751 ?_;refine ap (fun h246=>?_) fun h246=>?_
 ·exfalso;omega
 refine U 8512200 ?_;refine ap (fun h246_2=>?_) fun h246_2=>?_
 ·exfalso;omega
 refine U 5126 ?_;refine ap (fun h252=>?_) fun h252=>?_
 ·exfalso;omega
 refine U 5126 ?_;refine ap (fun h260=>?_) fun h260=>?_
 ·exfalso;omega
 refine U 5126 ?_;refine ap (fun h268=>?_) fun h268=>?_
 ·refine gY ?_;refine lM 8 (.rd 0 (.rd 1 (.rd 2 (.rd 3 (.rd 4 (.rd 5 (.rd 6 (.one 7 .done)))))))) ?_;refine U 3000000070 ?_;refine aM (ai (n:=5) rfl eQ ib rfl rfl) ?_;refine U 3000000070 ?_;refine aM (fF 3 1 false) ?_;refine w8 gm ?_
  refine ir (ar (yZ b a.most O) ?_)
  refine xP ?_
  show cJ _ _ _ _ _ _
  refine aq (aA 5 ?_)
  refine U 300050007000851 ?_
  have hs:saidM a b=(vT (if ay b a.most=0 then b else []),ay b a.most):=by unfold saidM;rw [jK,jK,jK,jK,jP]
  have hq:jt a b (.tup 2 (fl [gR (vT b),.c (.int .i64 ((ay b a.most:Nat):Int))])) []:=⟨⟨_,by rw [hs],fun h0=>by rw [hs] at h0 ⊢;rw [YF h0]⟩,rfl⟩
  exact bu (.inl rfl) [] jD rfl (bB rfl (bD 5) bJ) (cT iD I) hq
 refine U 5126 ?_;refine ap (fun h270=>?_) fun h270=>?_
 rotate_left
 ·exfalso;omega
 refine U 16 ?_
 refine au (ar (Im b O) ?_)
 refine U 521675119009001 ?_;refine ap (fun h272=>?_) fun h272=>?_
 ·refine dP ?_;refine jq (ai (n:=5) rfl eQ ib rfl rfl) ?_;refine U 1 ?_
  refine aq (aA 5 ?_)
  refine U 300050003000700051 ?_
  have hs:saidM a b=(vT [],(fG b).2):=by unfold saidM;rw [jK,jK,jK,jK,jK,jP];unfold ee;rw [jK]
  have hq:jt a b (.tup 2 (fl [gR VV.none,.c (.int .i64 (((fG b).2:Nat):Int))])) []:=⟨⟨_,by rw [hs],fun h0=>by rw [hs] at h0;exact absurd h0 (by simp only;omega)⟩,rfl⟩
  exact bu (.inl rfl) [] jD rfl (bB rfl (bD 5) bJ) (cT iD I) hq
 refine U 810 ?_
 have he0:(fG b).2=0:=by omega
 have hr:dj (fG b).1=true:=JI he0
 refine U 16 ?_
 refine au (ar (Ic (fG b).1 hr) ?_)
 refine jq (ai (n:=5) rfl eQ ib rfl rfl) ?_
 refine aq (aA 5 ?_)
 refine U 30005000700051 ?_
 have hs:saidM a b=(vT (kG (fG b).1),0):=by unfold saidM;rw [jK,jK,jK,jK,jK,jP];unfold ee;rw [YF he0]
 have hq:jt a b (.tup 2 (fl [gR (vT (kG (fG b).1)),.c (.int .i64 ((0:Nat):Int))])) []:=⟨⟨_,by rw [hs],fun h0=>by rw [hs]⟩,rfl⟩
 exact bu (.inl rfl) [] jD rfl (bB rfl (bD 5) bJ) (cT iD I) hq
theorem i7 {gs:List Nat} (n:Nat) (l:YD) (k:Nat) (a:AA) (hl:0<l.length∧l.length≤1000000) (hb:(aB l).length≤1000000) (hk:a.kind=1∨a.kind=2∨a.kind=7∨a.kind=8):AC gs Tryz.prog 74 [vd n l k] [.op 0 (some n) 0,nu a] (fun r H'=>r=gR (ac a l k).v∧H'=[vd n (ac a l k).l (ac a l k).k]) :=
 CE n l k a hl hb fun h1 h2 _ b hb=>EC a b O hb
end
section
variable {gs:List Nat} [dK gs] [qI gs]
open Go.RowKit Cal

theorem Uo {l:YD} {k:Nat} (h:k≤28):(am l k).1.2≤28:=i6 aE (i6 aT (i6 aO (i6 aL h)))
theorem Va {l:YD} {k:Nat} (h:k≤28):(eM l k).2≤28:=OC (fun _ _ h=>Uo h) (i6 aL h)
theorem UZ {l:YD} {k:Nat} (h:k≤28):(eG l k).1.2≤28:=by
 have h1:=Va (l:=l) h
 have h2:=wJ (kJ l k)
 unfold eG
 split
 ·exact h1
 ·dsimp only;omega
theorem sL {α:Type} {sp:nv α} {l0:YD} {k0:Nat} {most:Int} (ok:lU sp) (hl:0<l0.length) {j:Nat} (h1:∀ i,i<j→ma sp l0 k0 most i=true) (hm:bN (aD sp l0 k0 j).1.1 (aD sp l0 k0 j).1.2=true) (hj:most≤j):jG sp l0 k0 most=j∧co sp l0 k0 most=((ac aE (aD sp l0 k0 j).1.1 3).l,(ac aE (aD sp l0 k0 j).1.1 3).k):=by
 have hs:jG sp l0 k0 most=j:=lN ok hl h1 (by unfold ma;rw [hm,Zr,ZT];omega)
 refine ⟨hs,?_⟩
 obtain ⟨f1,f2⟩:=gF aE rfl (aD sp l0 k0 j).1.1 3
 unfold co
 rw [hs]
 dsimp only
 rw [YF hm,f1,f2]
theorem vt {α:Type} {sp:nv α} {l0:YD} {k0:Nat} {most:Int} (ok:lU sp) (hl:0<l0.length) {j:Nat} (h1:∀ i,i<j→ma sp l0 k0 most i=true) (hm:bN (aD sp l0 k0 j).1.1 (aD sp l0 k0 j).1.2=false):jG sp l0 k0 most=j∧co sp l0 k0 most=((ac aE (aD sp l0 k0 j).1.1 (aD sp l0 k0 j).1.2).l,(ac aE (aD sp l0 k0 j).1.1 (aD sp l0 k0 j).1.2).k):=by
 have hs:jG sp l0 k0 most=j:=lN ok hl h1 (by unfold ma;rw [hm];rfl)
 refine ⟨hs,?_⟩
 obtain ⟨f1,f2⟩:=gF aE rfl (aD sp l0 k0 j).1.1 (aD sp l0 k0 j).1.2
 unfold co
 rw [hs]
 dsimp only
 rw [YE (by rw [hm];simp),f1,f2]
def zS:Nat→CV:=fun _=>.top
theorem LF {gs:List Nat} (n:Nat) (l:YD) (k:Nat) (hl:0<l.length∧l.length≤100000) (hb:cp l≤100000):AC gs Tryz.prog 75 [vd n l k] [.op 0 (some n) 0] (fun x H'=>x=kh (eG l k).2∧H'=[vd n (eG l k).1.1 (eG l k).1.2]):=by
 have m0:dT l k≤100001:=by unfold dT;split <;> omega
 have n0:=dC m0
 obtain ⟨l1,m1⟩:=ka aL hl m0 jD
 obtain ⟨f1,f2⟩:=gG aL rfl l k
 have hL0:ac aL l k=ac aL l k:=rfl
 generalize hl0:(ac aL l k).l=l0 at *
 generalize hk0:(ac aL l k).k=k0 at *
 have e1:ah 48 l k=l0:=f1.symm
 have e2:(ae 48 l k).k=k0:=f2.symm
 have hso:=fun j=>nD am l0 k0 j
 have hbd:=lF (sp:=am) (k0:=k0) (most:=8) gu l1.1
 refine aj 60 Tryz.func75 fun al w0 F0 St0=>?_;refine dP ?_
 refine au (cl (n:=3) oR rfl fun p1=>?_)
 refine U 65 ?_
 refine au (aY 0 2 ec fun p2=>?_)
 refine U 1651 ?_;refine jq (ai (n:=4) rfl iK iP rfl rfl) ?_
 refine aq (aQ 0 ((by have h:=i7 (gs:=gs) n l k aL O O (.inl rfl);rw [hl0,hk0] at h;exact h)) ?_)
 refine U 2075 ?_;refine ax (α:=Nat×Option Nat) [3,4,5,12,13,14,15,16,17,18,19,20,21,22,23,24,25,26,27,28,29,30,31,32,33,34,35,36,37,38,39] (fun (j,g)=>[(3,.os 2 g 0 (aD am l0 k0 j).2.length 2)]) (fun (j,g)=>[vd n (aD am l0 k0 j).1.1 (aD am l0 k0 j).1.2,(p1,.blk 3 zS),(g,.blk ((aD am l0 k0 j).2.length * 2) (fV 2 fX ([],[]) (aD am l0 k0 j).2))]) (fun p=>∀ i,i<p.1→ma am l0 k0 8 i=true) (fun p=>dT (aD am l0 k0 p.1).1.1 (aD am l0 k0 p.1).1.2) ((0,p2)) ?_ (fun _=>rfl) ?_ ?_ ?_
 ·exact fun i hi=>absurd hi (YW i)
 ·exact .cons (cO rfl) .nil
 ·exact .same (.blk rfl (fun j hj=>aa.top _) (.blk rfl (fun j hj=>absurd hj (YW j)) .nil))
 ·rintro ⟨j,g⟩ (hj:∀ i,i<j→ma am l0 k0 8 i=true)
  obtain ⟨hmj,hlk,hlo,hhi⟩:=hbd j hj
  have hjl:0<(aD am l0 k0 j).1.1.length∧(aD am l0 k0 j).1.1.length≤200000:=by omega
  have hjm:dT (aD am l0 k0 j).1.1 (aD am l0 k0 j).1.2≤100001:=by omega
  have hjn:=dC hjm
  have hjo:=hso j
  refine U 167 ?_
  refine aq (aQ 0 (wm n (aD am l0 k0 j).1.1 (aD am l0 k0 j).1.2 O) ?_)
  refine U 5 ?_;refine ap (fun h115=>?_) fun h115=>?_
  rotate_left
  ·refine U 84000200020006000 ?_
   first
    |(have hmt1:bN (aD am l0 k0 j).1.1 (aD am l0 k0 j).1.2=true:=by simpa using h115
      obtain ⟨hs1,hs2⟩:=sL (most:=8) gu l1.1 hj hmt1 O
      have hDo:=i7 (gs:=gs) n (aD am l0 k0 j).1.1 3 aE O O (.inr (.inl rfl)))
    |(have hmf1:bN (aD am l0 k0 j).1.1 (aD am l0 k0 j).1.2=false:=by simpa using h115
      obtain ⟨hs1,hs2⟩:=vt (most:=8) gu l1.1 hj hmf1
      have hDo:=i7 (gs:=gs) n (aD am l0 k0 j).1.1 (aD am l0 k0 j).1.2 aE O O (.inr (.inl rfl)))
   have hE1:(eM l k).1=(co am l0 k0 8).1:=by unfold eM;rw [e1,e2]
   have hE2:(eM l k).2=(co am l0 k0 8).2:=by unfold eM;rw [e1,e2]
   have hL:kJ l k=(aD am l0 k0 j).2:=by unfold kJ;rw [e1,e2,hs1]
   rw [hs2] at hE1 hE2
   dsimp only at hE1 hE2
   rw [← hE1,← hE2] at hDo
   refine U 16 ?_;refine jq (ai (n:=4) rfl iK iP rfl rfl) ?_
   refine aq (aQ 0 hDo ?_)
   refine U 5250100401675 ?_;refine ap (fun h127=>?_) fun h127=>?_
   ·refine dP ?_;refine jq (ai (n:=3) rfl oR CJ rfl rfl) ?_
    refine aq (aA 3 ?_)
    refine U 300070005 ?_
    rw [show eG l k=(eM l k,dw) by unfold eG;rw [jP]]
    exact aJ (.inl rfl) rfl (av rfl (bD 3)) iD
   refine U 810 ?_
   have hz:(eM l k).2=0:=by omega
   refine jE (freeze 2 rfl) ?_;refine jE (kg 3 (fun a b=>fX ((aD am l0 k0 j).2.getD a ([],[])) b) rfl rfl O (fun a b ha hb=>aa.of_eq (by rw [Nat.zero_add,iy hb]))) ?_;refine U 16 ?_
   refine au (ar (Cv (aD am l0 k0 j).2 O) ?_)
   refine U 9009001 ?_
   refine au (cl (n:=3) oR rfl fun p6=>?_)
   refine aq (aA 3 ?_)
   refine U 53016751 ?_;refine ap (fun h131=>?_) fun h131=>?_
   rotate_left
   ·refine U 6810 ?_;refine gw (bq 3) ?_
    refine aq (aA 3 ?_)
    refine U 70005 ?_
    have hof:=(wJ (aD am l0 k0 j).2).imp id And.left
    rw [show eG l k=(((eM l k).1,(lr (aD am l0 k0 j).2).2),(lr (aD am l0 k0 j).2).1) by unfold eG;rw [jK,hL]]
    first
     |(have h9:(lr (aD am l0 k0 j).2).2=(eM l k).2:=by omega
       rw [h9]
       exact aJ (.inl rfl) rfl (av rfl (bD 3)) iD)
     |(have h9:(lr (aD am l0 k0 j).2).2=9:=by omega
       rw [h9]
       exact aJ (.inl rfl) rfl (av rfl (bD 3)) iD)
   refine U 100401200 ?_
   refine aq (bo 1 (vc (eM l k).1 9) ?_ ?_)
   ·exact oB
   refine U 685 ?_;refine gw (bq 3) ?_
   refine aq (aA 3 ?_)
   refine U 70005 ?_
   have hof:=(wJ (aD am l0 k0 j).2).imp id And.left
   rw [show eG l k=(((eM l k).1,(lr (aD am l0 k0 j).2).2),(lr (aD am l0 k0 j).2).1) by unfold eG;rw [jK,hL]]
   first
    |(have h9:(lr (aD am l0 k0 j).2).2=(eM l k).2:=by omega
      rw [h9]
      exact aJ (.inl rfl) rfl (av rfl (bD 3)) iD)
    |(have h9:(lr (aD am l0 k0 j).2).2=9:=by omega
      rw [h9]
      exact aJ (.inl rfl) rfl (av rfl (bD 3)) iD)
  refine U 52316720810 ?_;refine ap (fun h116=>?_) fun h116=>?_
  rotate_left
  ·refine U 810 ?_
   have hmt0:bN (aD am l0 k0 j).1.1 (aD am l0 k0 j).1.2=true:=by simpa using h115
   have hgo:ma am l0 k0 8 j=true:=by unfold ma;rw [hmt0,Zr,YP];omega
   obtain ⟨q1,r1⟩:=ka aL hjl hjm jD
   obtain ⟨q2,r2⟩:=ka aO q1 r1 jD
   obtain ⟨q3,r3⟩:=ka aT q2 r2 jD
   have t1:=dC r1
   have t2:=dC r2
   have t3:=dC r3
   refine U 16 ?_;refine jq (ai (n:=4) rfl iK iP rfl rfl) ?_
   refine aq (aQ 0 (i7 n (aD am l0 k0 j).1.1 (aD am l0 k0 j).1.2 aL O O (.inl rfl)) ?_)
   refine U 165 ?_;refine jq (ai (n:=4) rfl iK iP rfl rfl) ?_
   refine aq (aQ 0 (i7 n (ac aL (aD am l0 k0 j).1.1 (aD am l0 k0 j).1.2).l (ac aL (aD am l0 k0 j).1.1 (aD am l0 k0 j).1.2).k aO O O (.inr (.inr (.inr rfl)))) ?_)
   refine jq (S6 4 1) ?_;refine U 1651 ?_;refine jq (ai (n:=4) rfl iK iP rfl rfl) ?_
   refine aq (aQ 0 (i7 n (ac aO (ac aL (aD am l0 k0 j).1.1 (aD am l0 k0 j).1.2).l (ac aL (aD am l0 k0 j).1.1 (aD am l0 k0 j).1.2).k).l (ac aO (ac aL (aD am l0 k0 j).1.1 (aD am l0 k0 j).1.2).l (ac aL (aD am l0 k0 j).1.1 (aD am l0 k0 j).1.2).k).k aT O O (.inr (.inr (.inl rfl)))) ?_)
   refine jq (S6 4 1) ?_;refine U 1651 ?_;refine jq (ai (n:=4) rfl iK iP rfl rfl) ?_
   refine aq (aQ 0 (i7 n (ac aT (ac aO (ac aL (aD am l0 k0 j).1.1 (aD am l0 k0 j).1.2).l (ac aL (aD am l0 k0 j).1.1 (aD am l0 k0 j).1.2).k).l (ac aO (ac aL (aD am l0 k0 j).1.1 (aD am l0 k0 j).1.2).l (ac aL (aD am l0 k0 j).1.1 (aD am l0 k0 j).1.2).k).k).l (ac aT (ac aO (ac aL (aD am l0 k0 j).1.1 (aD am l0 k0 j).1.2).l (ac aL (aD am l0 k0 j).1.1 (aD am l0 k0 j).1.2).k).l (ac aO (ac aL (aD am l0 k0 j).1.1 (aD am l0 k0 j).1.2).l (ac aL (aD am l0 k0 j).1.1 (aD am l0 k0 j).1.2).k).k).k aE O O (.inr (.inl rfl))) ?_)
   refine U 1112005 ?_;refine jq (ai (n:=2) rfl ec qL rfl rfl) ?_
   refine au (aY 2 2 ec fun p9=>?_)
   refine aq (aF (fW 2 fX ([],[])) (l2:=[(am (aD am l0 k0 j).1.1 (aD am l0 k0 j).1.2).2]) rfl rfl rfl rfl (by exact YG _) (fun _ _=>I) (aW rfl (.inl rfl) jD) rfl (fun j hj=>by rcases j with _|_|j <;> first|exact I|(exfalso;simp at hj <;> omega)) Tryz.underlying152 uy uk ec uJ rfl (by (simp;omega)) (by (simp;omega)) (bC rfl rfl) rfl rfl rfl (fun p10=>?_))
   refine U 840051 ?_
   refine aw ((j+1,p10)) ?_ ?_ (h5:=?_) (h7:=?_)
   ·exact fun i hi=>if h:i<j then hj i h else (by obtain rfl:i=j:=(by have hi:i<j+1:=hi;omega);exact hgo)
   ·exact gu.mu _ _ O hmt0
   ·exact .cons (cO rfl) .nil
   ·exact aP.refl _
  refine U 1004016 ?_
  refine aq (bo 1 (vc (aD am l0 k0 j).1.1 3) ?_ ?_)
  ·exact oB
  refine U 84000200080000200060005 ?_
  first
   |(have hmt1:bN (aD am l0 k0 j).1.1 (aD am l0 k0 j).1.2=true:=by simpa using h115
     obtain ⟨hs1,hs2⟩:=sL (most:=8) gu l1.1 hj hmt1 O
     have hDo:=i7 (gs:=gs) n (aD am l0 k0 j).1.1 3 aE O O (.inr (.inl rfl)))
   |(have hmf1:bN (aD am l0 k0 j).1.1 (aD am l0 k0 j).1.2=false:=by simpa using h115
     obtain ⟨hs1,hs2⟩:=vt (most:=8) gu l1.1 hj hmf1
     have hDo:=i7 (gs:=gs) n (aD am l0 k0 j).1.1 (aD am l0 k0 j).1.2 aE O O (.inr (.inl rfl)))
  have hE1:(eM l k).1=(co am l0 k0 8).1:=by unfold eM;rw [e1,e2]
  have hE2:(eM l k).2=(co am l0 k0 8).2:=by unfold eM;rw [e1,e2]
  have hL:kJ l k=(aD am l0 k0 j).2:=by unfold kJ;rw [e1,e2,hs1]
  rw [hs2] at hE1 hE2
  dsimp only at hE1 hE2
  rw [← hE1,← hE2] at hDo
  refine U 16 ?_;refine jq (ai (n:=4) rfl iK iP rfl rfl) ?_
  refine aq (aQ 0 hDo ?_)
  refine U 5250100401675 ?_;refine ap (fun h127=>?_) fun h127=>?_
  ·refine dP ?_;refine jq (ai (n:=3) rfl oR CJ rfl rfl) ?_
   refine aq (aA 3 ?_)
   refine U 300070005 ?_
   rw [show eG l k=(eM l k,dw) by unfold eG;rw [jP]]
   exact aJ (.inl rfl) rfl (av rfl (bD 3)) iD
  refine U 810 ?_
  have hz:(eM l k).2=0:=by omega
  refine jE (freeze 2 rfl) ?_;refine jE (kg 3 (fun a b=>fX ((aD am l0 k0 j).2.getD a ([],[])) b) rfl rfl O (fun a b ha hb=>aa.of_eq (by rw [Nat.zero_add,iy hb]))) ?_;refine U 16 ?_
  refine au (ar (Cv (aD am l0 k0 j).2 O) ?_)
  refine U 9009001 ?_
  refine au (cl (n:=3) oR rfl fun p6=>?_)
  refine aq (aA 3 ?_)
  refine U 53016751 ?_;refine ap (fun h131=>?_) fun h131=>?_
  rotate_left
  ·refine U 6810 ?_;refine gw (bq 3) ?_
   refine aq (aA 3 ?_)
   refine U 70005 ?_
   have hof:=(wJ (aD am l0 k0 j).2).imp id And.left
   rw [show eG l k=(((eM l k).1,(lr (aD am l0 k0 j).2).2),(lr (aD am l0 k0 j).2).1) by unfold eG;rw [jK,hL]]
   first
    |(have h9:(lr (aD am l0 k0 j).2).2=(eM l k).2:=by omega
      rw [h9]
      exact aJ (.inl rfl) rfl (av rfl (bD 3)) iD)
    |(have h9:(lr (aD am l0 k0 j).2).2=9:=by omega
      rw [h9]
      exact aJ (.inl rfl) rfl (av rfl (bD 3)) iD)
  refine U 100401200 ?_
  refine aq (bo 1 (vc (eM l k).1 9) ?_ ?_)
  ·exact oB
  refine U 685 ?_;refine gw (bq 3) ?_
  refine aq (aA 3 ?_)
  refine U 70005 ?_
  have hof:=(wJ (aD am l0 k0 j).2).imp id And.left
  rw [show eG l k=(((eM l k).1,(lr (aD am l0 k0 j).2).2),(lr (aD am l0 k0 j).2).1) by unfold eG;rw [jK,hL]]
  first
   |(have h9:(lr (aD am l0 k0 j).2).2=(eM l k).2:=by omega
     rw [h9]
     exact aJ (.inl rfl) rfl (av rfl (bD 3)) iD)
   |(have h9:(lr (aD am l0 k0 j).2).2=9:=by omega
     rw [h9]
     exact aJ (.inl rfl) rfl (av rfl (bD 3)) iD)

theorem RS (l:YD) (k:Nat) (hl:0<l.length):dT (eG l k).1.1 (eG l k).1.2≤dT l k:=by
 obtain ⟨_,e2,_,e4,e5,_⟩:=f7 (t:=48) (l:=l) (k:=k) hl
 have he:0<(ah 48 l k).length:=by
  by_cases h0:(ae 48 l k).k=0
  ·rw [e4 h0];omega
  ·rw [e5 h0];omega
 have hs:=nV (sp:=am) (l0:=ah 48 l k) (k0:=(ae 48 l k).k) (most:=8) gu he
 have hb:=lF (sp:=am) (l0:=ah 48 l k) (k0:=(ae 48 l k).k) (most:=8) gu he _ hs.1
 have hE:dT (eM l k).1 (eM l k).2≤dT l k:=by
  unfold eM co
  dsimp only
  split
  ·obtain ⟨_,f2,_⟩:=lH (l:=(aD am (ah 48 l k) (ae 48 l k).k (jG am (ah 48 l k) (ae 48 l k).k 8)).1.1) (k:=3) O
   have h3:dT (aD am (ah 48 l k) (ae 48 l k).k (jG am (ah 48 l k) (ae 48 l k).k 8)).1.1 3≤dT (aD am (ah 48 l k) (ae 48 l k).k (jG am (ah 48 l k) (ae 48 l k).k 8)).1.1 (aD am (ah 48 l k) (ae 48 l k).k (jG am (ah 48 l k) (ae 48 l k).k 8)).1.2:=by
    unfold dT
    rw [YE jD]
    omega
   dsimp only
   omega
  ·obtain ⟨_,f2,_⟩:=lH (l:=(aD am (ah 48 l k) (ae 48 l k).k (jG am (ah 48 l k) (ae 48 l k).k 8)).1.1) (k:=(aD am (ah 48 l k) (ae 48 l k).k (jG am (ah 48 l k) (ae 48 l k).k 8)).1.2) O
   dsimp only
   omega
 unfold eG
 split
 ·exact hE
 ·rename_i h0
  dsimp only
  have h1:(eM l k).2=0:=Z5.1 h0
  refine Zd ?_ hE
  unfold dT
  rw [YF h1]
  split <;> omega
theorem sH (f:Fd) (ho:u6 f) {l:YD} {k m B:Nat} (hl:0<l.length∧l.length≤m) (hb:dT l k≤B):(0<(cQ f l k).1.1.length∧(cQ f l k).1.1.length≤m+17)∧dT (cQ f l k).1.1 (cQ f l k).1.2≤B:=by
 have h1:=(JT f ho (k:=k) hl.1).1
 refine ⟨by omega,?_⟩
 unfold cQ
 split
 ·exact Zd (RS l k hl.1) hb
 ·exact Zd (gr (nj f) (l:=l) (k:=k) hl.1).2.1 hb
section
variable (n:Nat) (l:YD) (k:Nat)
theorem P4 {gs:List Nat} [dK gs] [qI gs] (f:Fd) (hc:f.call=0) (hl:0<l.length∧l.length≤100000) (hb:dT l k≤100000):AC gs Tryz.prog 58 [el n l k] [.op 0 (some n) 0] (fun r H'=>r=kh (cQ f l k).2.who∧H'=[el n (cQ f l k).1.1 (cQ f l k).1.2]):=by
 have h:=Rh (gs:=gs) n l k hl (wQ hb)
 have e:cQ f l k=((eG l k).1,⟨0,[],[],(eG l k).2⟩):=by unfold cQ;rw [YF hc]
 rw [e]
 exact h
theorem Gk {f:Fd} (hc:f.call≠0):cQ f l k=(((ac (nj f) l k).l,(ac (nj f) l k).k),⟨(ac (nj f) l k).v.n,(ac (nj f) l k).v.t,(ac (nj f) l k).v.b,dw⟩):=by unfold cQ;rw [YE hc]
theorem GA {gs:List Nat} [gQ gs] (least most:Int) (hl:0<l.length∧l.length≤1000000) (hb:(aB l).length≤10000000):AC gs Tryz.prog 59 [el n l k] [.op 0 (some n) 0,.c (.int .i64 least),.c (.int .i64 most)] (fun r H'=>r=aV (cQ ⟨6,least,most⟩ l k).2.b∧H'=[el n (cQ ⟨6,least,most⟩ l k).1.1 (cQ ⟨6,least,most⟩ l k).1.2]):=by
 have h:=CQ (gs:=gs) n l k least most hl hb
 rw [Gk l k (show ¬ (6:Int)=0 by decide),rY vB [] rfl (t:=4) (f:=iW least most) (by show ¬ (6:Int)=1;decide) (by show ¬ (6:Int)=2;decide) (by show ¬ (6:Int)=11;decide) (by funext b;rfl) rfl]
 exact h
theorem RK {gs:List Nat} [gQ gs] (least most:Int) (hl:0<l.length∧l.length≤1000000) (hb:(aB l).length≤10000000):AC gs Tryz.prog 61 [el n l k] [.op 0 (some n) 0,.c (.int .i64 least),.c (.int .i64 most)] (fun r H'=>r=.c (.int .i64 (cQ ⟨3,least,most⟩ l k).2.n)∧H'=[el n (cQ ⟨3,least,most⟩ l k).1.1 (cQ ⟨3,least,most⟩ l k).1.2]):=by
 have h:=NO (gs:=gs) n l k least most hl hb
 rw [Gk l k (show ¬ (3:Int)=0 by decide),rY vN 0 rfl (t:=2) (f:=fun b=>aX b least most) (by show ¬ (3:Int)=1;decide) (by show ¬ (3:Int)=2;decide) (by show ¬ (3:Int)=11;decide) (by funext b;rfl) rfl]
 exact h
end
end
section
open Go.RowKit Cal
section
variable (n:Nat) (w:W8) (least most:Int) (v:V4)
theorem G7 {kd:Int} (h1:kd≠1) (h2:kd≠2) (h3:kd≠11) (nn:Int) (b t:Z) (w:W8):mr ⟨kd,nn,false,b,t⟩ w=fD (bp ⟨kd,nn,false,b,t⟩).1 (bp ⟨kd,nn,false,b,t⟩).2.1 (bp ⟨kd,nn,false,b,t⟩).2.2 w:=by
 unfold mr
 rw [YE h1,YE h2,YE h3]
theorem Gu {f:Fd} (h:f.call≠0):mh f v w=mr (qF f v) w:=by unfold mh;rw [YE h]
theorem Ra {gs:List Nat} [gQ gs] (hs:uQ w) (hb:v.b.length≤1000000):AC gs Tryz.prog 42 [ii n w] [.op 0 (some n) 0,aV v.b] (fun r H'=>r=.c (.tuple #[])∧H'=[ii n (mh ⟨6,least,most⟩ v w)]):=by
 have e:mh ⟨6,least,most⟩ v w=fD 4 v.b 0 w:=by rw [Gu _ _ (show ¬ (6:Int)=0 by decide)];exact G7 (kd:=6) jD jD jD _ _ _ _
 rw [e]
 exact wK n w v.b hb hs
theorem RI {gs:List Nat} [gQ gs] (hs:uQ w) (hz:-9223372036854775808≤v.n∧v.n≤9223372036854775807):AC gs Tryz.prog 44 [ii n w] [.op 0 (some n) 0,.c (.int .i64 v.n)] (fun r H'=>r=.c (.tuple #[])∧H'=[ii n (mh ⟨3,least,most⟩ v w)]):=by
 have e:mh ⟨3,least,most⟩ v w=fD 2 (kz v.n) 0 w:=by rw [Gu _ _ (show ¬ (3:Int)=0 by decide)];exact G7 (kd:=3) jD jD jD _ _ _ _
 rw [e]
 exact RH n w v.n hz hs
end
end
section
open Go.RowKit Cal
theorem LB {gs:List Nat} [gQ gs] {f:FuncId} (hc:bA Tryz.prog f=true) (n:Nat) (tag:Int) (ws:W8) (l:YD) (sG:Nat→W8) (h0:uQ ws) (hs:sG 0=di tag ws) (hok:∀ i,i≤l.length→uQ (sG i)) (hl:l.length≤1000000) (hf:∀ i,i<l.length→AC gs Tryz.prog f [ii n (sG i)] [.op 0 (some n) 0,an (l.getD i [])] (fun r H'=>r=.c (.tuple #[])∧H'=[ii n (sG (i+1))])) :
  AC gs Tryz.prog 45 [ii n ws] [.op 0 (some n) 0,.c (.int .i64 tag),sX l,.fn f 0 fun _=>.top] (fun r H'=>r=.c (.tuple #[])∧H'=[ii n (dN (sG l.length))]):=by
 refine aj 26 Tryz.func45 fun al w0 F0 St0=>?_;refine U 116 ?_
 refine aq (aQ 0 (pj n ws tag h0) ?_)
 refine U 205131675 ?_;refine ax (α:=Nat) [9,15,16,17,18,19,20,21,22,23] (fun i=>[(15,.c (.int .i64 (i:Nat)))]) (fun i=>[ii n (sG i)]) (fun i=>i≤l.length) (fun i=>l.length-i) (0) ?_ (fun _=>rfl) ?_ ?_ ?_
 ·exact YT _
 ·exact .cons I .nil
 ·rw [hs];exact aP.refl _
 ·rintro i (hi:i≤l.length)
  refine U 7526 ?_;refine ap (fun h305=>?_) fun h305=>?_
  rotate_left
  ·refine U 84000200020006000 ?_
   have hie:i=l.length:=by omega
   subst hie
   refine U 1200 ?_
   refine aq (aQ 0 (np n (sG l.length) (hok _ (YG _))) ?_)
   refine U 5 ?_
   exact bV (.inr rfl) _ [_] [0] jD rfl (cM rfl) ⟨rfl,rfl⟩
  refine U 7006207810 ?_
  first|refine gw gm ?_|refine jq kC ?_
  refine U 11120051 ?_
  refine aq (pZ (i:=0) rfl rfl (by first|assumption|kernel_rfl) rfl (hf i O) (.cons cP (.cons I .nil)) rfl rfl ?_)
  rintro _ _ ⟨rfl,rfl⟩
  refine ⟨_,rfl,?_⟩
  refine U 851920084005 ?_
  refine aw (i+1) ?_ ?_ (h5:=?_) (h7:=?_)
  ·show i+1≤l.length;omega
  ·show l.length-(i+1)<l.length-i;omega
  ·exact .cons (cI O) .nil
  ·exact aP.refl _
section
variable {gs:List Nat} [gQ gs]
end
section
variable {gs:List Nat} [dK gs] [qI gs]
def PW (gs:List Nat) (f:FuncId) (w:W8) (args:List CV) (w':W8):Prop:=∀ n,AC gs Tryz.prog f [ii n w] (.op 0 (some n) 0::args) (fun r H'=>r=.c (.tuple #[])∧H'=[ii n w'])
variable {c:sW}
end
theorem mc:lU ce:=⟨fun l k hl hm=>(gr Hf (l:=l) (k:=k) hl).2.2.1 (gH hm).1 jD,fun l k hl hm _=>(gr Hf (l:=l) (k:=k) hl).2.2.2.2.2.1 jD jD,fun l k hl hm=>by
 have:=(gr Hf (l:=l) (k:=k) hl).2.2.2.2.2.1 jD jD
 show l.length≤(ac Hf l k).l.length∧(ac Hf l k).l.length≤l.length+16
 omega⟩
theorem Ql {gs:List Nat} [gQ gs] {f:FuncId} (hc:bA Tryz.prog f=true) (n:Nat) (l:YD) (k:Nat) (tag most:Int) {sp:nv (Z)} (ok:lU sp) (hl:0<l.length∧l.length≤100000) (hb:cp l≤100000) (hf:∀ l k,0<l.length∧l.length≤200000→cp l≤100000→bN l k=true→AC gs Tryz.prog f [el n l k] [.op 0 (some n) 0] (fun r H'=>r=an (sp l k).2∧H'=[el n (sp l k).1.1 (sp l k).1.2])) :
  AC gs Tryz.prog 62 [el n l k] [.op 0 (some n) 0,.c (.int .i64 tag),.c (.int .i64 most),.fn f 0 fun _=>.top]
   (fun r H'=>r=sX (if (co sp (ah tag l k) (ae tag l k).k most).2=0 then (aD sp (ah tag l k) (ae tag l k).k (jG sp (ah tag l k) (ae tag l k).k most)).2 else [])∧H'=[el n (co sp (ah tag l k) (ae tag l k).k most).1 (co sp (ah tag l k) (ae tag l k).k most).2]):=by
 have he:=f7 (t:=tag) (l:=l) (k:=k) hl.1
 have hle:l.length≤(ah tag l k).length∧(ah tag l k).length≤l.length+1:=by
  by_cases h:(ae tag l k).k=0
  ·have:=he.2.2.2.1 h;omega
  ·have:=he.2.2.2.2.1 h;omega
 have hsm:dT (ah tag l k) (ae tag l k).k≤100001:=by
  have h0:dT l k≤100001:=by unfold dT;split <;> omega
  exact Zd he.2.1 h0
 have hse:cp (ah tag l k)≤100000:=by
  have h1:=he.2.1
  have h2:=he.2.2.1
  have h3:=he.1
  by_cases hk:k=0
  ·have h4:=h2 hk
   unfold dT at h4
   rw [YF hk] at h4
   split at h4 <;> omega
  ·rw [(h3 hk).1];exact hb
 have hnl:=vf l
 generalize hl0:ah tag l k=l0 at *
 generalize hk0:(ae tag l k).k=k0 at *
 have hso:=fun j=>nD sp l0 k0 j
 have hbd:=lF (sp:=sp) (k0:=k0) (most:=most) ok (show 0<l0.length by omega)
 refine aj 36 Tryz.func62 fun al w0 F0 St0=>?_;refine U 116516516 ?_
 refine aq (aQ 0 (px n l k tag O O) ?_)
 refine U 2075 ?_
 rw [hl0,hk0]
 refine jE (mj 9 1 (fV 1 (fun (t:Z) (_:Nat)=>an t) [] []) rfl) ?_;refine ax (α:=Nat×Option Nat) [9,13,14,15,16,17,18,19,20,21,22,23,24,25,26,27] (fun (j,g)=>[(9,.os 1 g 0 (aD sp l0 k0 j).2.length 1)]) (fun (j,g)=>[el n (aD sp l0 k0 j).1.1 (aD sp l0 k0 j).1.2,(g,.blk ((aD sp l0 k0 j).2.length * 1) (fV 1 (fun (t:Z) (_:Nat)=>an t) [] (aD sp l0 k0 j).2))]) (fun p=>∀ i,i<p.1→ma sp l0 k0 most i=true) (fun p=>dT (aD sp l0 k0 p.1).1.1 (aD sp l0 k0 p.1).1.2) ((0,none)) ?_ (fun _=>rfl) ?_ ?_ ?_
 ·exact fun i hi=>absurd hi (YW i)
 ·exact .cons (cO rfl) .nil
 ·exact aP.refl _
 ·rintro ⟨j,g⟩ (hj:∀ i,i<j→ma sp l0 k0 most i=true)
  obtain ⟨hmj,hlk,hlo,hhi⟩:=hbd j hj
  have hjl:0<(aD sp l0 k0 j).1.1.length∧(aD sp l0 k0 j).1.1.length≤200000:=by omega
  have hjo:=hso j
  have hjm:j≤100001:=by omega
  refine U 167 ?_
  refine aq (aQ 0 (GD n (aD sp l0 k0 j).1.1 (aD sp l0 k0 j).1.2 O) ?_)
  refine U 5 ?_;refine ap (fun h315=>?_) fun h315=>?_
  rotate_left
  ·refine U 84000200020006000 ?_
   first
    |(have hmt:bN (aD sp l0 k0 j).1.1 (aD sp l0 k0 j).1.2=true:=by simpa using h315
      have hkz:=(gH hmt).1
      rw [YF hkz]
      have hstop:jG sp l0 k0 most=j:=lN ok O hj (by unfold ma;rw [hmt,Zr,ZT];omega)
      have hE:el n (bb (aD sp l0 k0 j).1.1 3) (aC (aD sp l0 k0 j).1.1 3)=el n (co sp l0 k0 most).1 (co sp l0 k0 most).2:=by
       unfold co
       rw [hstop]
       dsimp only
       rw [YF hmt])
    |(have hmf:bN (aD sp l0 k0 j).1.1 (aD sp l0 k0 j).1.2=false:=by simpa using h315
      have hstop:jG sp l0 k0 most=j:=lN ok O hj (by unfold ma;rw [hmf];rfl)
      have hE:el n (bb (aD sp l0 k0 j).1.1 (aD sp l0 k0 j).1.2) (aC (aD sp l0 k0 j).1.1 (aD sp l0 k0 j).1.2)=el n (co sp l0 k0 most).1 (co sp l0 k0 most).2:=by
       unfold co
       rw [hstop]
       dsimp only
       rw [YE (by rw [hmf];simp)])
   refine U 16 ?_
   refine aq (aQ 0 (lI n (aD sp l0 k0 j).1.1 _ O) ?_)
   refine U 75 ?_
   dsimp only
   rw [hE,hstop]
   refine bv 0 rfl fun gl=>?_;refine U 5500000501004016 ?_;refine ap (fun h323=>?_) fun h323=>?_
   ·refine jE (cE n (co sp l0 k0 most).2 (co sp l0 k0 most).1 0 2 rfl rfl rfl (cO rfl) I (YG _) (fun _ _=>I)) ?_;refine U 30007000516 ?_
    exact bu (.inl rfl) [0] jD rfl (av rfl (ak rfl)) (m:=sX []) (aa.nilS' rfl) ⟨by rw [jK],rfl⟩
   refine U 810 ?_;refine jE (cE n (co sp l0 k0 most).2 (co sp l0 k0 most).1 0 2 rfl rfl rfl (cO rfl) I (YG _) (fun _ _=>I)) ?_;refine U 5116 ?_;refine jE (freeze 1 rfl) ?_;refine jE (kg 8 (fun a b=>(fun (t:Z) (_:Nat)=>an t) ((aD sp l0 k0 j).2.getD a []) b) rfl rfl O (fun a b ha hb=>aa.of_eq (by rw [Nat.zero_add,iy hb]))) ?_;refine U 7000 ?_
   exact bu (.inl rfl) [0] jD rfl (av rfl (ak rfl)) (m:=sX (aD sp l0 k0 j).2) I ⟨by rw [jP],rfl⟩
  refine U 521316720810 ?_;refine ap (fun h316=>?_) fun h316=>?_
  rotate_left
  ·refine U 810 ?_
   have hmt0:bN (aD sp l0 k0 j).1.1 (aD sp l0 k0 j).1.2=true:=by simpa using h315
   have hgo:ma sp l0 k0 most j=true:=by unfold ma;rw [hmt0,Zr,YP];omega
   refine U 111200 ?_
   refine aq (pZ (i:=0) rfl rfl (by assumption) rfl (hf (aD sp l0 k0 j).1.1 (aD sp l0 k0 j).1.2 hjl (by have h1:dT (aD sp l0 k0 j).1.1 (aD sp l0 k0 j).1.2=cp (aD sp l0 k0 j).1.1+1:=(by unfold dT;rw [YF (gH hmt0).1]);omega) hmt0) (.cons cP .nil) rfl rfl ?_)
   rintro _ _ ⟨rfl,rfl⟩
   refine ⟨_,rfl,?_⟩
   refine au (aY 1 1 Eg fun p3=>?_)
   refine aq (aF (fW 1 (fun (t:Z) (_:Nat)=>an t) []) (l2:=[(sp (aD sp l0 k0 j).1.1 (aD sp l0 k0 j).1.2).2]) rfl rfl rfl rfl (by exact YG _) (fun _ _=>I) (aW rfl (.inl rfl) jD) rfl (fun j hj=>by rcases j with _|j <;> first|exact I|(exfalso;simp at hj <;> omega)) Tryz.underlying27 MG PY Eg WV rfl (by (simp;omega)) (by (simp;omega)) (bC rfl rfl) rfl rfl rfl (fun p4=>?_))
   refine U 840051 ?_
   refine aw ((j+1,p4)) ?_ ?_ (h5:=?_) (h7:=?_)
   ·exact fun i hi=>if h:i<j then hj i h else (by obtain rfl:i=j:=(by have hi:i<j+1:=hi;omega);exact hgo)
   ·exact ok.mu _ _ O (by unfold ma at hgo;rw [YK] at hgo;exact hgo.1)
   ·exact .cons (cO rfl) .nil
   ·exact aP.refl _
  refine U 16 ?_;refine jq (cK 2) ?_
  refine aq (aQ 0 (tS n (aD sp l0 k0 j).1.1 (aD sp l0 k0 j).1.2 3) ?_)
  refine U 84000200080000200060005 ?_
  first
   |(have hmt:bN (aD sp l0 k0 j).1.1 (aD sp l0 k0 j).1.2=true:=by simpa using h315
     have hkz:=(gH hmt).1
     rw [YF hkz]
     have hstop:jG sp l0 k0 most=j:=lN ok O hj (by unfold ma;rw [hmt,Zr,ZT];omega)
     have hE:el n (bb (aD sp l0 k0 j).1.1 3) (aC (aD sp l0 k0 j).1.1 3)=el n (co sp l0 k0 most).1 (co sp l0 k0 most).2:=by
      unfold co
      rw [hstop]
      dsimp only
      rw [YF hmt])
   |(have hmf:bN (aD sp l0 k0 j).1.1 (aD sp l0 k0 j).1.2=false:=by simpa using h315
     have hstop:jG sp l0 k0 most=j:=lN ok O hj (by unfold ma;rw [hmf];rfl)
     have hE:el n (bb (aD sp l0 k0 j).1.1 (aD sp l0 k0 j).1.2) (aC (aD sp l0 k0 j).1.1 (aD sp l0 k0 j).1.2)=el n (co sp l0 k0 most).1 (co sp l0 k0 most).2:=by
      unfold co
      rw [hstop]
      dsimp only
      rw [YE (by rw [hmf];simp)])
  refine U 16 ?_
  refine aq (aQ 0 (lI n (aD sp l0 k0 j).1.1 _ O) ?_)
  refine U 75 ?_
  dsimp only
  rw [hE,hstop]
  refine bv 0 rfl fun gl=>?_;refine U 5500000501004016 ?_;refine ap (fun h323=>?_) fun h323=>?_
  ·refine jE (cE n (co sp l0 k0 most).2 (co sp l0 k0 most).1 0 2 rfl rfl rfl (cO rfl) I (YG _) (fun _ _=>I)) ?_;refine U 30007000516 ?_
   exact bu (.inl rfl) [0] jD rfl (av rfl (ak rfl)) (m:=sX []) (aa.nilS' rfl) ⟨by rw [jK],rfl⟩
  refine U 810 ?_;refine jE (cE n (co sp l0 k0 most).2 (co sp l0 k0 most).1 0 2 rfl rfl rfl (cO rfl) I (YG _) (fun _ _=>I)) ?_;refine U 5116 ?_;refine jE (freeze 1 rfl) ?_;refine jE (kg 8 (fun a b=>(fun (t:Z) (_:Nat)=>an t) ((aD sp l0 k0 j).2.getD a []) b) rfl rfl O (fun a b ha hb=>aa.of_eq (by rw [Nat.zero_add,iy hb]))) ?_;refine U 7000 ?_
  exact bu (.inl rfl) [0] jD rfl (av rfl (ak rfl)) (m:=sX (aD sp l0 k0 j).2) I ⟨by rw [jP],rfl⟩
section
variable {gs:List Nat} [gQ gs]
end
theorem U4 {gs:List Nat} [gQ gs] (n:Nat) (l:YD) (k:Nat) (hl:0<l.length∧l.length≤1000000) (hb:(aB l).length≤10000000):AC gs Tryz.prog 60 [el n l k] [.op 0 (some n) 0] (fun r H'=>r=.c (.int .i64 (ac FQ l k).v.n)∧H'=[el n (ac FQ l k).l (ac FQ l k).k]):=by
 have h:=Ft (gs:=gs) n l k hl hb
 rw [rY vN 0 rfl (t:=3) (f:=fun b=>((((aZ b).1:Nat):Int),(aZ b).2)) (by show ¬ (10:Int)=1;decide) (by show ¬ (10:Int)=2;decide) (by show ¬ (10:Int)=11;decide) (by funext b;rfl) rfl]
 exact h
section
variable {gs:List Nat} [dK gs] [qI gs] {c:sW}
end
end
section
open Go.RowKit Cal
def kW (l:YD) (k:Nat):YD×Nat:=co ce (ah 48 l k) (ae 48 l k).k 8
def oU (l:YD) (k:Nat):YD:=(aD ce (ah 48 l k) (ae 48 l k).k (jG ce (ah 48 l k) (ae 48 l k).k 8)).2
theorem qe (l:YD) (k:Nat) (h:0<l.length):0<(bb l k).length∧(bb l k).length≤l.length:=by
 obtain ⟨_,_,f3,f4⟩:=lH (l:=l) (k:=k) h
 by_cases h0:aC l k=0
 ·have:=f3 h0;omega
 ·rw [f4 h0];omega
theorem qo (t:Int) (l:YD) (k:Nat) (h:0<l.length):0<(ah t l k).length∧(ah t l k).length≤l.length+1:=by
 obtain ⟨_,_,_,e4,e5,_⟩:=f7 (t:=t) (l:=l) (k:=k) h
 by_cases h0:(ae t l k).k=0
 ·rw [e4 h0];omega
 ·rw [e5 h0];omega
theorem PR (l:YD) (k:Nat) (hl:0<l.length):0<(kW l k).1.length∧(kW l k).1.length≤l.length+17:=by
 have he:=qo 48 l k hl
 have hs:=nV (sp:=ce) (l0:=ah 48 l k) (k0:=(ae 48 l k).k) (most:=8) mc he.1
 have hb:=lF (sp:=ce) (l0:=ah 48 l k) (k0:=(ae 48 l k).k) (most:=8) mc he.1 _ hs.1
 unfold kW co
 dsimp only
 split
 ·have:=qe (aD ce (ah 48 l k) (ae 48 l k).k (jG ce (ah 48 l k) (ae 48 l k).k 8)).1.1 3 O
  dsimp only
  omega
 ·have:=qe (aD ce (ah 48 l k) (ae 48 l k).k (jG ce (ah 48 l k) (ae 48 l k).k 8)).1.1 (aD ce (ah 48 l k) (ae 48 l k).k (jG ce (ah 48 l k) (ae 48 l k).k 8)).1.2 O
  dsimp only
  omega
theorem TG (l:YD) (k:Nat) (hl:0<l.length):dT (kW l k).1 (kW l k).2≤dT l k:=by
 have he:=qo 48 l k hl
 have hm:=(f7 (t:=48) (l:=l) (k:=k) hl).2.1
 have hs:=nV (sp:=ce) (l0:=ah 48 l k) (k0:=(ae 48 l k).k) (most:=8) mc he.1
 have hb:=lF (sp:=ce) (l0:=ah 48 l k) (k0:=(ae 48 l k).k) (most:=8) mc he.1 _ hs.1
 unfold kW co
 dsimp only
 split
 ·have h3:=(lH (l:=(aD ce (ah 48 l k) (ae 48 l k).k (jG ce (ah 48 l k) (ae 48 l k).k 8)).1.1) (k:=3) O).2.1
  have h4:dT (aD ce (ah 48 l k) (ae 48 l k).k (jG ce (ah 48 l k) (ae 48 l k).k 8)).1.1 3≤dT (aD ce (ah 48 l k) (ae 48 l k).k (jG ce (ah 48 l k) (ae 48 l k).k 8)).1.1 (aD ce (ah 48 l k) (ae 48 l k).k (jG ce (ah 48 l k) (ae 48 l k).k 8)).1.2:=by
   unfold dT
   rw [YE jD]
   omega
  dsimp only
  omega
 ·have h3:=(lH (l:=(aD ce (ah 48 l k) (ae 48 l k).k (jG ce (ah 48 l k) (ae 48 l k).k 8)).1.1) (k:=(aD ce (ah 48 l k) (ae 48 l k).k (jG ce (ah 48 l k) (ae 48 l k).k 8)).1.2) O).2.1
  dsimp only
  omega
theorem M6 {l:YD} {k:Nat} (h:aC l k=0):k=0:=by
 refine bbx fun hp=>?_
 unfold aC at h
 rw [jP] at h
 omega
def lZ (b:Z):YD:=ah 48 [b] (aN b).2
def oN (b:Z):Nat:=(ae 48 [b] (aN b).2).k
def g2 (b:Z):=cQ lS (lZ b) (oN b)
def g3 (b:Z):=cQ xo (g2 b).1.1 (g2 b).1.2
def g4 (b:Z):=ac FQ (g3 b).1.1 (g3 b).1.2
def g5 (b:Z):=cQ uF (g4 b).l (g4 b).k
def g6 (b:Z):=kW (g5 b).1.1 (g5 b).1.2
def gK (b:Z):Nat:=jk (bb (g6 b).1 (g6 b).2) (aC (g6 b).1 (g6 b).2)
def Bt (b:Z):Q5:=((g2 b).2.who,bg (g3 b).2.b,(g4 b).v.n,(g5 b).2.n,oU (g5 b).1.1 (g5 b).1.2)
def ut:Q5:=(dw,[],0,0,[])
def gq (k:Nat) (q:Q5):Q5×Nat:=if k=0 then (if cA q=true then (q,0) else (ut,4)) else (ut,k)
def dS (b:Z):Q5×Nat:=gq (gK b) (Bt b)
structure YB (b:Z):Prop where
 l1:0<(lZ b).length∧(lZ b).length≤2
 m1:dT (lZ b) (oN b)≤100000
 l2:0<(g2 b).1.1.length∧(g2 b).1.1.length≤19
 m2:dT (g2 b).1.1 (g2 b).1.2≤100000
 l3:0<(g3 b).1.1.length∧(g3 b).1.1.length≤36
 m3:dT (g3 b).1.1 (g3 b).1.2≤100000
 l4:0<(g4 b).l.length∧(g4 b).l.length≤37
 m4:dT (g4 b).l (g4 b).k≤100000
 l5:0<(g5 b).1.1.length∧(g5 b).1.1.length≤54
 m5:dT (g5 b).1.1 (g5 b).1.2≤100000
 l6:0<(g6 b).1.length∧(g6 b).1.length≤71
 m6:dT (g6 b).1 (g6 b).2≤100000
 l7:0<(bb (g6 b).1 (g6 b).2).length∧(bb (g6 b).1 (g6 b).2).length≤71
theorem Vm {b:Z} (hb:b.length≤90000):YB b:=by
 have m0:dT [b] (aN b).2≤100000:=by
  have:cp [b]=b.length:=by simp [cp]
  unfold dT
  split <;> omega
 have hl:=qo 48 [b] (aN b).2 (by simp)
 have he:=f7 (t:=48) (l:=[b]) (k:=(aN b).2) (by simp)
 have l1:0<(lZ b).length∧(lZ b).length≤2:=⟨hl.1,by have:=hl.2;simpa [lZ] using this⟩
 have m1:dT (lZ b) (oN b)≤100000:=Zd he.2.1 m0
 obtain ⟨l2,m2⟩:=sH lS nM l1 m1
 obtain ⟨l3,m3⟩:=sH xo sb l2 m2
 obtain ⟨l4,m4⟩:=ka FQ l3 m3 jD
 obtain ⟨l5,m5⟩:=sH uF qO l4 m4
 have l6:=PR (g5 b).1.1 (g5 b).1.2 l5.1
 have l5b:(g5 b).1.1.length≤54:=l5.2
 have l6':0<(g6 b).1.length∧(g6 b).1.length≤71:=⟨l6.1,Zd l6.2 O⟩
 have l7:=qe (g6 b).1 (g6 b).2 l6'.1
 exact ⟨l1,m1,l2,m2,l3,m3,l4,m4,l5,m5,l6',Zd (TG (g5 b).1.1 (g5 b).1.2 l5.1) m5,⟨l7.1,Zd l7.2 l6'.2⟩⟩
theorem WM {b:Z} (h:gK b=0):(g6 b).2=0:=M6 (OB h)
theorem yT {q:Q5} (hr:cA q=true):dS (dL q)=(q,0):=by
 have h:=pr hr
 have hd:=tf h
 obtain ⟨e1,e2,_⟩:=qp [] (t:=48) (b:=xZ q) [] jD (by have:=(k8 h).1;omega)
 rw [ZH] at e1 e2
 have s1:lZ (dL q)=[[]]++[xZ q]:=by unfold lZ;rw [hd];exact e1
 have k1:oN (dL q)=0:=by unfold oN;rw [hd];exact e2
 have s2:g2 (dL q)=(([[]]++[Mc q],0),B7 q.1):=by unfold g2;rw [s1,k1];exact qk nM h.who [[]] (Mc q)
 have s3:g3 (dL q)=(([[]]++[QV q],0),xO (fQ q.2.1)):=by unfold g3;rw [s2];exact qk sb h.ky [[]] (QV q)
 have hs:saidM FQ (dD q.2.2.1.toNat)=(vN q.2.2.1,0):=by
  have hu:=h.us
  have hm:=Fa (m:=q.2.2.1.toNat) O
  show (vN ((aZ (dD q.2.2.1.toNat)).1:Nat),(aZ (dD q.2.2.1.toNat)).2)=_
  rw [hm]
  show (vN ((q.2.2.1.toNat:Nat):Int),0)=_
  rw [aHx O]
 have s4:g4 (dL q)=⟨[[]]++[SW q],0,vN q.2.2.1⟩:=by
  unfold g4
  rw [s3]
  have:=pf FQ [[]] (b:=dD q.2.2.1.toNat) (SW q) (by show (3:Int)≤10∧(10:Int)≤10;decide) (by have:=rK h.us;omega) (by rw [hs])
  rw [hs] at this
  exact this
 have s5:g5 (dL q)=(([[]]++[SU q],0),xS q.2.2.2.1):=by unfold g5;rw [s4];exact qk qO h.du [[]] (SU q)
 obtain ⟨f1,f2⟩:=Gd mc KN (tag:=48) (most:=8) [[]] (xs:=q.2.2.2.2) [] jD h.al (by have:=h.n8;omega) (by have:=rL h.n8 h.al;unfold FM at this;omega)
 have s6:g6 (dL q)=([[]]++[[]],0):=by unfold g6;rw [s5];exact f1
 have s6v:oU (g5 (dL q)).1.1 (g5 (dL q)).1.2=q.2.2.2.2:=by rw [s5];exact f2
 have lv:=qf (ls:=[[]]) jD
 generalize dL q=B at s2 s3 s4 s5 s6 s6v ⊢
 have s7:gK B=0:=by
  unfold gK
  rw [s6]
  dsimp only
  rw [lv.1,lv.2]
  rfl
 have sq:Bt B=q:=by
  unfold Bt
  rw [s6v,s2,s3,s4,s5]
  show (q.1,bg (fQ q.2.1),q.2.2.1,q.2.2.2.1,q.2.2.2.2)=q
  rw [zV q.2.1 (by rw [h.hk.1]) h.hk.2]
 unfold dS gq
 rw [YF s7,sq,YF hr]
theorem LM {b:Z} (h:(dS b).2=0):cA (dS b).1=true:=by
 unfold dS gq at h ⊢
 by_cases h1:gK b=0
 ·rw [YF h1] at h ⊢
  by_cases h2:cA (Bt b)=true
  ·rw [YF h2];exact h2
  ·rw [YE h2] at h;dsimp only at h;omega
 ·rw [YE h1] at h;dsimp only at h;exact absurd h h1
def Ts:AA:=⟨11,0,0,0⟩
def VB:Fd:=⟨6,32,32⟩
theorem SZ:u6 VB:=by unfold u6 VB;decide
def kS (b:Z):=ac Ts (lZ b) (oN b)
def jy (b:Z):=cQ VB (kS b).l (kS b).k
def Po (b:Z):Nat:=jk (bb (jy b).1.1 (jy b).1.2) (aC (jy b).1.1 (jy b).1.2)
def oO (k:Nat) (v s:Z):Z×Z×Nat:=if k=0 then (v,s,0) else ([],[],k)
def bS (b:Z):Z×Z×Nat:=oO (Po b) (kS b).v.b (jy b).2.b
structure YA (b:Z):Prop where
 l1:0<(lZ b).length∧(lZ b).length≤2
 m1:dT (lZ b) (oN b)≤100000
 l2:0<(kS b).l.length∧(kS b).l.length≤19
 m2:dT (kS b).l (kS b).k≤100000
 l3:0<(jy b).1.1.length∧(jy b).1.1.length≤36
 m3:dT (jy b).1.1 (jy b).1.2≤100000
 l4:0<(bb (jy b).1.1 (jy b).1.2).length∧(bb (jy b).1.1 (jy b).1.2).length≤36
theorem Vl {b:Z} (hb:b.length≤90000):YA b:=by
 have m0:dT [b] (aN b).2≤100000:=by
  have:cp [b]=b.length:=by simp [cp]
  unfold dT
  split <;> omega
 have hl:=qo 48 [b] (aN b).2 (by simp)
 have he:=f7 (t:=48) (l:=[b]) (k:=(aN b).2) (by simp)
 have l1:0<(lZ b).length∧(lZ b).length≤2:=⟨hl.1,by have:=hl.2;simpa [lZ] using this⟩
 have m1:dT (lZ b) (oN b)≤100000:=Zd he.2.1 m0
 obtain ⟨l2,m2⟩:=ka Ts l1 m1 jD
 have l2':0<(kS b).l.length∧(kS b).l.length≤19:=⟨l2.1,Zd l2.2 O⟩
 obtain ⟨l3,m3⟩:=sH VB SZ l2' m2
 have l4:=qe (jy b).1.1 (jy b).1.2 l3.1
 exact ⟨l1,m1,l2',m2,l3,m3,⟨l4.1,Zd l4.2 l3.2⟩⟩
theorem rR {l:YD} (h:0<l.length):∃ ls x,l=ls++[x]:=⟨l.dropLast,l.getLast (Zh.1 h),(Z7 _).symm⟩
theorem Av {f:Fd} {v:V4} (h:gg f v):(f.call=0→v=B7 v.who)∧(f.call=6→v=xO v.b)∧(f.call=3→v=xS v.n):=by
 refine ⟨fun hc=>?_,fun hc=>?_,fun hc=>?_⟩
 all_goals
  rcases h with ⟨h1,h2,_⟩|⟨h1,h2,_⟩|⟨h1,h2,_⟩|⟨h1,h2,_⟩|⟨h1,h2,_⟩
  all_goals first|exact h2|(exfalso;omega)
attribute [local irreducible] g2 g3 g4 g5 g6 lZ oN gK ac cQ jk bb aC co ah ae eG in
theorem EG {b:Z} (hb:b.length≤90000) (h:(dS b).2=0):dL (dS b).1=b:=by
 have B:=Vm hb
 have hz:gK b=0∧(dS b).1=Bt b:=by
  unfold dS gq at h ⊢
  by_cases h1:gK b=0
  ·rw [YF h1] at h ⊢
   by_cases h2:cA (Bt b)=true
   ·rw [YF h2];exact ⟨h1,rfl⟩
   ·rw [YE h2] at h;dsimp only at h;omega
  ·rw [YE h1] at h;dsimp only at h;exact absurd h h1
 obtain ⟨hk,hq⟩:=hz
 have k6:=WM hk
 have hkk:jk (bb (g6 b).1 (g6 b).2) (aC (g6 b).1 (g6 b).2)=0:=by rw [show gK b=_ by unfold gK;rfl] at hk;exact hk
 have E6:g6 b=kW (g5 b).1.1 (g5 b).1.2:=by unfold g6;rfl
 have E5:g5 b=cQ uF (g4 b).l (g4 b).k:=by unfold g5;rfl
 have E4:g4 b=ac FQ (g3 b).1.1 (g3 b).1.2:=by unfold g4;rfl
 have E3:g3 b=cQ xo (g2 b).1.1 (g2 b).1.2:=by unfold g3;rfl
 have E2:g2 b=cQ lS (lZ b) (oN b):=by unfold g2;rfl
 have V:Bt b=((g2 b).2.who,bg (g3 b).2.b,(g4 b).v.n,(g5 b).2.n,oU (g5 b).1.1 (g5 b).1.2):=by unfold Bt;rfl
 have L1:lZ b=ah 48 [b] (aN b).2:=by unfold lZ;rfl
 have K1:oN b=(ae 48 [b] (aN b).2).k:=by unfold oN;rfl
 have l1:=B.l1.1
 have l2:=B.l2.1
 have l3:=B.l3.1
 have l4:=B.l4.1
 have l5:=B.l5.1
 have k5:(g5 b).1.2=0:=by
  obtain ⟨ls,x,e⟩:=rR l5
  rw [E6,e] at k6
  unfold kW at k6
  exact (wi mc KN ls x jD k6).1
 have k4:(g4 b).k=0:=by
  obtain ⟨ls,x,e⟩:=rR l4
  rw [E5,e] at k5
  exact (iG qO k5).1
 have k3:(g3 b).1.2=0:=by
  obtain ⟨ls,x,e⟩:=rR l3
  rw [E4,e] at k4
  exact (lp jD k4).1
 have k2:(g2 b).1.2=0:=by
  obtain ⟨ls,x,e⟩:=rR l2
  rw [E3,e] at k3
  exact (iG sb k3).1
 have k1:oN b=0:=by
  obtain ⟨ls,x,e⟩:=rR l1
  rw [E2,e] at k2
  exact (iG nM k2).1
 obtain ⟨hk0,body,r,e1,_,e3,_⟩:=rH (ls:=[]) (x:=b) (t:=48) (k:=(aN b).2) jD (by rw [K1] at k1;exact k1)
 have s1:lZ b=[r]++[body]:=L1.trans e3
 rw [s1,k1] at E2
 rw [E2] at k2
 obtain ⟨_,v1,r1,v2,v3,v4⟩:=iG nM k2
 rw [v4] at E2
 rw [E2] at E3
 dsimp only at E3
 rw [E3] at k3
 obtain ⟨_,u1,r2,u2,u3,u4⟩:=iG sb k3
 rw [u4] at E3
 rw [E3] at E4
 dsimp only at E4
 rw [E4] at k4
 obtain ⟨_,fb,r3,f1,_,f3,f4⟩:=lp (a:=FQ) jD k4
 rw [f4] at E4
 rw [E4] at E5
 dsimp only at E5
 rw [E5] at k5
 obtain ⟨_,d1,r4,d2,d3,d4⟩:=iG qO k5
 rw [d4] at E5
 rw [E5] at E6
 dsimp only at E6
 have T:oU (g5 b).1.1 (g5 b).1.2=oU ([r]++[r4]) 0:=by rw [E5]
 unfold kW at E6
 rw [E6] at k6
 obtain ⟨_,xs,r5,_,_,_,x4,x5,x6⟩:=wi mc KN [r] r4 jD k6
 rw [x5] at E6
 have T2:oU ([r]++[r4]) 0=xs:=by unfold oU;exact x6
 rw [E6] at hkk
 dsimp only at hkk
 obtain ⟨_,y1,_,y3⟩:=rr (ls:=[r]) (x:=r5) (k:=0) (OB hkk)
 rw [y3] at hkk
 have y4:=(OA (l:=[r]) (by simp) hkk).2
 have hr:r=[]:=by simpa using y4
 have w1:=(Av v2).1 rfl
 have w2:=(Av u2).2.1 rfl
 have w3:=(Av d2).2.2 rfl
 have hm:saidM FQ fb=(vN ((aZ fb).1:Nat),(aZ fb).2):=rfl
 have m1:dD (aZ fb).1=fb:=Fs (by rw [hm] at f3;exact f3)
 rw [hq,V,T,T2,E2,E3,E4,E5]
 dsimp only
 rw [hm]
 unfold dL xZ Mc QV SW SU Pq
 dsimp only [vN]
 rw [zK,← w1,← w2,← w3,azx,m1]
 rw [e1,v3,u3,f1,d3,x4,y1,hr]
 unfold FM
 simp only [ZH]
 rfl
section
variable {gs:List Nat} [dK gs] [qI gs]
end
end
section
open Go.RowKit Cal

section
variable {gs:List Nat} {c:sW}
end
end
section
open Go.RowKit Cal
section
variable {gs:List Nat} [dK gs] [qI gs]
end
end
section
open Go.RowKit Cal
def cS (b s:Z):Z:=bL 48 (b++bL 4 s)
theorem Us {b:Z} (h:(aN b).2=0):∃ t x,b=bL t x∧bI t=true∧x.length≤65530:=by
 unfold aN at h
 by_cases h1:65536<b.length
 ·rw [YF h1] at h;cases h
 ·rw [YE h1] at h
  by_cases h2:(af b).e≠0
  ·rw [YF h2] at h;exact absurd h h2
  ·rw [YE h2] at h
   by_cases h3:0<(af b).rest.length
   ·rw [YF h3] at h;cases h
   ·obtain ⟨e1,e2,e3⟩:=wO (Z5.1 h2)
    have e4:(af b).rest=[]:=Zp.1 O
    rw [e4,ZH] at e1
    exact ⟨_,_,e1,e2,e3⟩
theorem ML {b:Z} (h:(aN b).2=0) (ls:YD) (r:Z):(ab 0 (ls++[b++r]) 0).l=ls++[r]∧(ab 0 (ls++[b++r]) 0).k=0∧(ab 0 (ls++[b++r]) 0).raw=b:=by
 obtain ⟨t,x,rfl,hk,hl⟩:=Us h
 have hn:=wN (r:=r) hk hl
 unfold ab
 rw [YE jD,iR,hn,YE (by simp),YE (by simp)]
 refine ⟨?_,rfl,?_⟩
 ·show (ls++[bL t x++r]).set ((ls++[bL t x++r]).length-1) r=_
  simp
 ·show (bL t x++r).take ((bL t x++r).length-r.length)=_
  simp
theorem A6 {fr:List (Int×YD)} (h1:fr.length≤16) (h2:∀ x ∈ fr,x.2.length≤1000000∧cp x.2≤1000000):uQ ⟨fr,[],0⟩:=⟨h1,h2,by simp⟩
section
variable {gs:List Nat} [dK gs] {b s:Z}
theorem tF (hb:b.length≤60000) (hs:s.length=32):(b++bL 4 s).length≤60100∧(cS b s).length≤60200:=by
 have h1:=ez 4 s
 have h2:=ez 48 (b++bL 4 s)
 unfold cS
 rw [YI] at h2 ⊢
 omega
theorem XE:PW gs 40 SN [.c (.int .i64 48)] ⟨[(48,[])],[],0⟩:=fun n=>pj n SN 48 XX
theorem XD (hb:b.length≤60000) (hd:(aN b).2=0):PW gs 84 ⟨[(48,[])],[],0⟩ [aV b] ⟨[(48,[b])],[],0⟩:=fun n=>by
 have h:=QS (gs:=gs) n ⟨[(48,[])],[],0⟩ b O (A6 (by simp) (by simp [cp]))
 have e:tk b ⟨[(48,[])],[],0⟩=⟨[(48,[b])],[],0⟩:=by
  unfold tk
  rw [hd,rE,YF rfl]
  rfl
 rw [e] at h
 exact h
theorem XC (hb:b.length≤60000) (hs:s.length=32):PW gs 42 ⟨[(48,[b])],[],0⟩ [aV s] ⟨[(48,[b,bL 4 s])],[],0⟩:=fun n=>by
 have h:=wK (gs:=gs) n ⟨[(48,[b])],[],0⟩ s O (A6 (by simp) (fun x hx=>by
  rw [Zs.1 hx]
  simp [cp]
  omega))
 rw [rg rfl jD O,mE] at h
 exact h
theorem XB (hb:b.length≤60000) (hs:s.length=32):PW gs 48 ⟨[(48,[b,bL 4 s])],[],0⟩ [] ⟨[],cS b s,0⟩:=fun n=>by
 have hl:=(tF hb hs).1
 have hp:=ez 4 s
 have h:=np (gs:=gs) n ⟨[(48,[b,bL 4 s])],[],0⟩ (A6 (by simp) (fun x hx=>by
  rw [Zs.1 hx]
  simp [cp]
  omega))
 have e:[b,bL 4 s].flatten=b++bL 4 s:=by simp
 rw [pz jD jD (by rw [e];omega),e] at h
 exact h
theorem Ry (hb:b.length≤60000) (hs:s.length=32):jl ⟨[],cS b s,0⟩=0∧uG ⟨[],cS b s,0⟩=cS b s:=by
 have hl:=(tF hb hs).2
 have hz:jl (⟨[],cS b s,0⟩:W8)=0:=by
  unfold jl
  rw [YE (by simp),YE (by simp),YE (by dsimp only;omega)]
 refine ⟨hz,?_⟩
 unfold uG
 rw [YF hz]
end
end
section
open Go.RowKit Cal
theorem AN {gs:List Nat} (q:Q5) (hk:q.2.1.length≤1000000):cc gs Tryz.prog 17 [kx q] (.c (.bool (cA q))):=by
 have har:=Ak q.2.2.2.2
 refine aj 42 Tryz.func17 fun al w0 F0 St0=>?_;refine dP ?_
 refine au (ff 7 fun p1=>?_)
 refine U 6751 ?_;refine jq (fF 0 3 true) ?_;refine gw (bq 3) ?_
 refine au (ar (yN q.1) ?_)
 refine U 130 ?_;refine aK 7 (fun g15=>?_) fun g15=>?_
 ·refine U 80003000700051690005100000000444411000000004444 ?_;refine cB ?_
  unfold cA
  (simp_all;done)
 refine jq (fF 0 3 true) ?_;refine U 150025090 ?_;refine aK 13 (fun g15_2=>?_) fun g15_2=>?_
 ·refine U 800030007000516900051000000004444 ?_;refine cB ?_
  unfold cA
  (simp_all;done)
 refine U 505000000 ?_
 refine au (ar (TR q.2.1 hk) ?_)
 refine U 550030 ?_;refine ap (fun h15=>?_) fun h15=>?_
 ·refine U 800030007000516 ?_;refine cB ?_
  unfold cA
  (simp_all;done)
 refine U 125070000006810 ?_;refine aK 22 (fun g18=>?_) fun g18=>?_
 rotate_left
 ·refine U 8000700051500444150044415004441500444 ?_;refine cB ?_
  unfold cA
  (simp_all;omega)
 refine U 11000000002507000000 ?_;refine aK 27 (fun g18_2=>?_) fun g18_2=>?_
 rotate_left
 ·refine U 800070005150044415004441500444 ?_;refine cB ?_
  unfold cA
  (simp_all;omega)
 refine U 11000000002506000000 ?_;refine aK 32 (fun g18_3=>?_) fun g18_3=>?_
 rotate_left
 ·refine U 80007000515004441500444 ?_;refine cB ?_
  unfold cA
  (simp_all;omega)
 refine U 11000000002506000000 ?_;refine aK 37 (fun g18_4=>?_) fun g18_4=>?_
 ·refine U 5020000000 ?_
  refine au (ar (Ma q.2.2.2.2) ?_)
  refine U 8000700051100000000 ?_;refine cB ?_
  unfold cA
  (simp_all;done)
 refine U 8000700051500444 ?_;refine cB ?_
 unfold cA
 (simp_all;omega)
section
variable {gs:List Nat} [dK gs] [qI gs] {q:Q5}
theorem PS (n:Nat) (w:W8) (s:Z) (hs:uQ w) (h:ay s 64=0):AC gs Tryz.prog 46 [ii n w] [.op 0 (some n) 0,an s] (fun r H'=>r=.c (.tuple #[])∧H'=[ii n (mr (KI s) w)]):=by
 have hl:=gZ h
 have ht:=Cb (gs:=gs) n w s 64 O hs
 have e:mr (KI s) w=fD 12 (if ay s 64=0 then s else []) (ay s 64) w:=G7 (kd:=7) jD jD jD _ _ _ _
 rw [← e] at ht
 refine aj 7 Tryz.func46 fun al w0 F0 St0=>?_;refine U 11200 ?_
 refine aq (aQ 0 ht ?_)
 refine U 5 ?_
 exact bV (.inr rfl) _ [_] [0] jD rfl (cM rfl) ⟨rfl,rfl⟩
theorem Xq {gs:List Nat} [dK gs]:PW gs 40 SN [.c (.int .i64 48)] W9:=fun n=>pj n SN 48 XX
theorem Xp (h:iV q):PW gs 41 W9 [kh q.1] (Vz q):=fun n=>Rg n Tg jD q.1
theorem Xo {gs:List Nat} [dK gs] (h:iV q):PW gs 42 (Vz q) [aV (fQ q.2.1)] (ST q):=fun n=>Ra n _ 16 16 (xO (fQ q.2.1)) (gv (NJ h) jD) (by show (fQ q.2.1).length≤1000000;have:=lP q.2.1;have:=h.hk.1;omega)
theorem Xn {gs:List Nat} [dK gs] (h:iV q):PW gs 43 (ST q) [.c (.int .i64 q.2.2.1)] (Un q):=fun n=>by
 have hf:=JP (gs:=gs) n (ST q) q.2.2.1 (gv (NI h) jD)
 have e:Un q=fD 3 (nt q.2.2.1) (sS q.2.2.1) (ST q):=G7 (kd:=10) jD jD jD _ _ _ _
 rw [e]
 exact hf
theorem Xm {gs:List Nat} [dK gs] (h:iV q):PW gs 44 (Un q) [.c (.int .i64 q.2.2.2.1)] (QU q):=fun n=>RI n _ 1 253402300799 (xS q.2.2.2.1) (gv (NH h) jD) (nX qO h.du jD).2.2.2.2.2.2.1
theorem Xl (h:iV q):PW gs 45 (QU q) [.c (.int .i64 48),sX q.2.2.2.2,.fn 46 0 fun _=>.top] (Um q):=fun n =>
 LB (f:=46) (by kernel_rfl) n 48 (QU q) q.2.2.2.2 (tW (QU q) q.2.2.2.2) (gv (NG h) jD) rfl (fun i hi=>gv (Fj h i hi) (by have:=h.n8;omega)) (by have:=h.n8;omega) (fun i hi=>by
  have e:q.2.2.2.2.getD i []=q.2.2.2.2[i]:=by simp [List.getD,hi]
  exact PS n _ (q.2.2.2.2.getD i []) (gv (Fj h i O) (by have:=h.n8;omega)) (by rw [e];exact h.al _ (ZS _)))
theorem Xk {gs:List Nat} [dK gs] (h:iV q):PW gs 48 (Um q) [] (Ul q):=fun n=>np n (Um q) (gv (NF h) jD)
theorem Ai (q:Q5) (hn:q.2.2.2.2.length≤1000):cc gs Tryz.prog 15 [kx q] (.tup 2 (fl [aV (if cA q=true then dL q else []),.err (if cA q=true then 0 else 4)])):=by
 have hm:=Rk (gs:=gs) q.2.1
 have hho:dV q.2.1=false→cA q=false:=fun h=>by unfold cA;simp [h]
 refine aj 50 Tryz.func15 fun al w0 F0 St0=>?_;refine dP ?_
 refine au (ff 7 fun p1=>?_)
 refine U 5050000006511 ?_
 refine au (ar hm ?_)
 refine U 15000001675119009001 ?_;refine aK 15 (fun g37=>?_) fun g37=>?_
 ·refine U 790005100000000444 ?_;refine dY (.rd 0 (.rd 1 (.rd 2 .done))) ?_;refine U 80003000700088070704000000 ?_
  have hr:cA q=false:=by
   first
    |(simpa using ‹(!cA q)=true›)
    |(refine hho ?_
      cases e:dV q.2.1 with
      | false=>rfl
      | true=>simp [e] at g37)
  rw [hr]
  exact cT cN (aa.errN rfl)
 refine gw (bq 7) ?_
 refine au (ar (y5 q) ?_)
 refine U 550030 ?_;refine ap (fun h37=>?_) fun h37=>?_
 ·refine gY ?_;refine dY (.rd 0 (.rd 1 (.rd 2 .done))) ?_;refine U 80003000700088070704000000 ?_
  have hr:cA q=false:=by
   first
    |(simpa using ‹(!cA q)=true›)
    |(refine hho ?_
      cases e:dV q.2.1 with
      | false=>rfl
      | true=>simp [e] at g37)
  rw [hr]
  exact cT cN (aa.errN rfl)
 refine U 810 ?_
 have hr:cA q=true:=by simpa using ‹(!cA q)=false›
 have hg:=pr hr
 have ho:dV q.2.1=true:=by
  cases e:dV q.2.1 with
  | true=>rfl
  | false=>rw [hho e] at hr;cases hr
 rw [YF hr,YF hr]
 simp only [ho,if_true]
 refine dP ?_;refine jq (ai (n:=3) rfl VH Wf rfl rfl) ?_
 refine au (ff 3 fun p2=>?_)
 refine U 51 ?_;refine cL (gW 6 rfl) fun hn=>?_
 obtain ⟨n,rfl⟩:=hn
 refine jE (Wp n 1 rfl I I aa.nil) ?_
 dsimp only [List.set_cons_zero,List.set_cons_succ,List.cons_append,List.nil_append,List.length_cons,List.length_nil,Nat.zero_add,Nat.reduceAdd]
 refine U 16 ?_
 refine aq (aQ 1 (Xq n) ?_)
 refine U 165 ?_;refine jq (fF 0 3 true) ?_;refine gw (bq 3) ?_
 refine aq (aQ 1 (Xp hg n) ?_)
 refine U 1165 ?_
 refine aq (aQ 1 (Xo hg n) ?_)
 refine U 507000000165 ?_
 refine aq (aQ 1 (Xn hg n) ?_)
 refine U 506000000165 ?_
 refine aq (aQ 1 (Xm hg n) ?_)
 refine U 5020000000165 ?_
 refine aq (aQ 1 (Xl hg n) ?_)
 refine U 165 ?_
 refine aq (aQ 1 (Xk hg n) ?_)
 refine U 165 ?_
 refine aq (aQ 1 (OF n (Ul q) (gv (UN hg) jD)) ?_)
 refine U 80007000511900900 ?_
 obtain ⟨e1,e2⟩:=Qu hg
 rw [e1,e2]
 exact I
end
end
section
open Go.RowKit Cal
theorem gU {f:Nat→CV} (h:∀ j,j<7→aa (f j) (LJ ut j)):aa (.agg 7 f) (kx ut):=aa.agg rfl h
section
variable {gs:List Nat} [dK gs] [qI gs]
theorem KL (n:Nat) (l:YD) (k:Nat) (hl:0<l.length∧l.length≤1000000) (hb:(aB l).length≤10000000):AC gs Tryz.prog 63 [el n l k] [.op 0 (some n) 0] (fun r H'=>r=an (ce l k).2∧H'=[el n (ce l k).1.1 (ce l k).1.2]):=by
 have h:=Cc (gs:=gs) n l k hl hb
 refine aj 5 Tryz.func63 fun al w0 F0 St0=>?_;refine U 16516 ?_
 refine aq (aQ 0 h ?_)
 refine U 700051 ?_
 exact aJ (.inl rfl) rfl (av rfl (ak rfl)) I
def RD (gs:List Nat) (f:FuncId) (l:YD) (k:Nat) (args:List CV) (r:CV) (l':YD) (k':Nat):Prop:=∀ n,AC gs Tryz.prog f [el n l k] (.op 0 (some n) 0::args) (fun x H'=>x=r∧H'=[el n l' k'])
theorem LN {gs:List Nat} [dK gs] (b:Z) {K0 K1 K2 K3 K4 K5 K6 K7 KE:Nat} {L1 L2 L3 L4 L5 L6 L7:YD} {is:Bool} {who:S3} {id:Z} {us du:Int} {ts:YD}
  (hR:AC gs Tryz.prog 56 [] [aV b] (fun r H'=>∃ n,r=.op 0 (some n) 0∧H'=[el n [b] K0])) (hE:RD gs 57 [b] K0 [.c (.int .i64 48)] (.c (.bool is)) L1 K1) (hW:RD gs 58 L1 K1 [] (kh who) L2 K2)
  (hI:RD gs 59 L2 K2 [.c (.int .i64 16),.c (.int .i64 16)] (aV id) L3 K3) (hF:RD gs 60 L3 K3 [] (.c (.int .i64 us)) L4 K4) (hD:RD gs 61 L4 K4 [.c (.int .i64 1),.c (.int .i64 253402300799)] (.c (.int .i64 du)) L5 K5)
  (hT:RD gs 62 L5 K5 [.c (.int .i64 48),.c (.int .i64 8),.fn 63 0 fun _=>.top] (sX ts) L6 K6) (hL:RD gs 65 L6 K6 [] (.c (.tuple #[])) L7 K7) (hN:RD gs 66 L7 K7 [] (.err KE) L7 K7) :
  cc gs Tryz.prog 19 [aV b] (.tup 2 (fl [kx (gq KE (who,bg id,us,du,ts)).1,.err (gq KE (who,bg id,us,du,ts)).2])):=by
 have hM:=MN (gs:=gs) id
 have hQ:=y5 (gs:=gs) (who,(if id.length=16 then bg id else []),us,du,ts)
 have hno:¬ id.length=16→cA (who,bg id,us,du,ts)=false:=fun h=>by
  have:dV (bg id)=false:=tI (by rw [eP];omega)
  unfold cA
  simp [this]
 refine aj 53 Tryz.func19 fun al w0 F0 St0=>?_;refine dP ?_
 refine au (cl (n:=7) kR rfl fun p1=>?_)
 refine U 1651 ?_
 refine au (ry hR ?_)
 rintro _ _ ⟨n,rfl,rfl⟩
 refine U 651 ?_
 refine au (cl (n:=7) kR rfl fun p2=>?_)
 refine U 5 ?_;refine jE (eE 2 (m:=7) (F:=fl [.c (.int .i64 0),an [],an [],an [],.c (.int .i64 0),.c (.int .i64 0),.c (.slice none 0 0)]) rfl jD (fun _=>rfl) oB) ?_;refine U 16 ?_
 refine aq (aQ 1 (hE n) ?_)
 refine U 5 ?_
 dsimp only [List.set_cons_zero,List.set_cons_succ,List.cons_append,List.nil_append,List.length_cons,List.length_nil,Nat.zero_add,Nat.reduceAdd]
 refine U 16 ?_
 refine aq (aQ 1 (hW n) ?_)
 refine jq (fF 0 3 true) ?_
 refine aq (bo 3 (fl [.c (.int .i64 who.1),an who.2.1,an who.2.2,an [],.c (.int .i64 0),.c (.int .i64 0),.c (.slice none 0 0)]) ?_ ?_)
 ·exact oB
 refine U 5 ?_
 dsimp only [List.set_cons_zero,List.set_cons_succ,List.cons_append,List.nil_append,List.length_cons,List.length_nil,Nat.zero_add,Nat.reduceAdd]
 refine U 16 ?_
 refine aq (aQ 1 (hI n) ?_)
 refine U 51 ?_
 dsimp only [List.set_cons_zero,List.set_cons_succ,List.cons_append,List.nil_append,List.length_cons,List.length_nil,Nat.zero_add,Nat.reduceAdd]
 refine U 16 ?_
 refine aq (aQ 1 (hF n) ?_)
 refine U 7000000 ?_
 refine aq (bo 1 (fl [.c (.int .i64 who.1),an who.2.1,an who.2.2,an [],.c (.int .i64 us),.c (.int .i64 0),.c (.slice none 0 0)]) ?_ ?_)
 ·exact oB
 refine U 5 ?_
 dsimp only [List.set_cons_zero,List.set_cons_succ,List.cons_append,List.nil_append,List.length_cons,List.length_nil,Nat.zero_add,Nat.reduceAdd]
 refine U 16 ?_
 refine aq (aQ 1 (hD n) ?_)
 refine U 6000000 ?_
 refine aq (bo 1 (fl [.c (.int .i64 who.1),an who.2.1,an who.2.2,an [],.c (.int .i64 us),.c (.int .i64 du),.c (.slice none 0 0)]) ?_ ?_)
 ·exact oB
 refine U 5 ?_
 dsimp only [List.set_cons_zero,List.set_cons_succ,List.cons_append,List.nil_append,List.length_cons,List.length_nil,Nat.zero_add,Nat.reduceAdd]
 refine U 16 ?_
 refine aq (aQ 1 (hT n) ?_)
 refine U 20000000 ?_
 refine aq (bo 1 (fl [.c (.int .i64 who.1),an who.2.1,an who.2.2,an [],.c (.int .i64 us),.c (.int .i64 du),sX ts]) ?_ ?_)
 ·exact oB
 refine U 5 ?_
 dsimp only [List.set_cons_zero,List.set_cons_succ,List.cons_append,List.nil_append,List.length_cons,List.length_nil,Nat.zero_add,Nat.reduceAdd]
 refine U 16 ?_
 refine aq (aQ 1 (hL n) ?_)
 refine U 75 ?_
 dsimp only [List.set_cons_zero,List.set_cons_succ,List.cons_append,List.nil_append,List.length_cons,List.length_nil,Nat.zero_add,Nat.reduceAdd]
 refine U 16 ?_
 refine aq (aQ 1 (hN n) ?_)
 refine U 51 ?_
 dsimp only [List.set_cons_zero,List.set_cons_succ,List.cons_append,List.nil_append,List.length_cons,List.length_nil,Nat.zero_add,Nat.reduceAdd]
 refine U 550000016 ?_;refine ap (fun h62=>?_) fun h62=>?_
 ·refine dP ?_;refine jq (ai (n:=7) rfl kR rZ rfl rfl) ?_;refine U 1 ?_
  refine aq (aA 7 ?_)
  refine U 51 ?_
  refine jR (kq (eA (hres:=bB rfl (bD 7) bJ) (hv:=?_)))
  rw [show gq KE (who,bg id,us,du,ts)=(ut,KE) by unfold gq;rw [jK]]
  exact cT (gU fun j hj=>by rcases j with _|_|_|_|_|_|_|j <;> first|exact I|exact aa.nilS' rfl|omega) I
 refine U 810 ?_
 have hz:KE=0:=by omega
 have hfq:gq KE (who,bg id,us,du,ts)=if cA (who,bg id,us,du,ts)=true then ((who,bg id,us,du,ts),0) else (ut,4):=by unfold gq;rw [YF hz]
 refine U 16 ?_
 refine au (ar hM ?_)
 refine U 5000000165119009001 ?_
 refine aq (bo 1 (LJ (who,(if id.length=16 then bg id else []),us,du,ts)) ?_ ?_)
 ·exact oB
 refine U 15000001675 ?_;refine aK 45 (fun g67=>?_) fun g67=>?_
 ·refine U 790005100000000444 ?_;refine lL (.rd 0 (.rd 1 (.one 2 (.rd 3 .done)))) ?_;refine iX (ai (n:=7) rfl kR rZ rfl rfl) ?_;refine iX (cK 3) ?_
  refine lK (aA 7 ?_)
  refine U 8700000400000 ?_
  refine jR (kq (eA (hres:=bB rfl (bD 7) bJ) (hv:=?_)))
  have hr:cA (who,bg id,us,du,ts)=false:=by
   by_cases e:id.length=16
   ·simp_all
   ·exact hno e
  rw [hfq,hr]
  exact cT (gU fun j hj=>by rcases j with _|_|_|_|_|_|_|j <;> first|exact I|exact aa.nilS' rfl|omega) (aa.errN rfl)
 refine gw (bq 7) ?_
 refine au (ar hQ ?_ (ho:=rfl) (he:=(.cons (se rfl (aa.agg rfl (fun j hj=>aa.of_eq (by rw [Nat.zero_add])))) .nil)))
 refine U 550030 ?_;refine ap (fun h67=>?_) fun h67=>?_
 ·refine gY ?_;refine lL (.rd 0 (.rd 1 (.one 2 (.rd 3 .done)))) ?_;refine iX (ai (n:=7) rfl kR rZ rfl rfl) ?_;refine iX (cK 3) ?_
  refine lK (aA 7 ?_)
  refine U 8700000400000 ?_
  refine jR (kq (eA (hres:=bB rfl (bD 7) bJ) (hv:=?_)))
  have hr:cA (who,bg id,us,du,ts)=false:=by
   by_cases e:id.length=16
   ·simp_all
   ·exact hno e
  rw [hfq,hr]
  exact cT (gU fun j hj=>by rcases j with _|_|_|_|_|_|_|j <;> first|exact I|exact aa.nilS' rfl|omega) (aa.errN rfl)
 refine U 810 ?_
 have he:id.length=16:=by
  by_cases e:id.length=16
  ·exact e
  ·simp_all
 have hr:cA (who,bg id,us,du,ts)=true:=by simp_all
 simp only [he,if_true]
 refine dP ?_;refine gw (bq 7) ?_
 refine aq (aA 7 ?_)
 refine U 51 ?_
 refine jR (eA (hres:=bB rfl (bD 7) bJ) (hv:=?_))
 rw [hfq,hr,YF rfl]
 exact cT iD aa.nil
theorem tj (b:Z) (hb:b.length≤90000):cc gs Tryz.prog 19 [aV b] (.tup 2 (fl [kx (dS b).1,.err (dS b).2])):=by
 have B:=Vm hb
 have n1:=dC B.m1
 have n2:=dC B.m2
 have n3:=dC B.m3
 have n4:=dC B.m4
 have h:=LN b (yU (gs:=gs) b O) (fun n=>px (gs:=gs) n [b] (aN b).2 48 (by simp) (by show b.length≤_;omega)) (fun n=>P4 (gs:=gs) (n:=n) (l:=lZ b) (k:=oN b) lS rfl ⟨B.l1.1,by have:=B.l1.2;omega⟩ B.m1)
  (fun n=>GA (gs:=gs) (n:=n) (l:=(g2 b).1.1) (k:=(g2 b).1.2) 16 16 ⟨B.l2.1,by have:=B.l2.2;omega⟩ O) (fun n=>U4 (gs:=gs) n (g3 b).1.1 (g3 b).1.2 ⟨B.l3.1,by have:=B.l3.2;omega⟩ O) (fun n=>RK (gs:=gs) (n:=n) (l:=(g4 b).l) (k:=(g4 b).k) 1 253402300799 ⟨B.l4.1,by have:=B.l4.2;omega⟩ O)
  (fun n=>Ql (gs:=gs) (f:=63) (by kernel_rfl) n (g5 b).1.1 (g5 b).1.2 48 8 mc ⟨B.l5.1,by have:=B.l5.2;omega⟩ (wQ B.m5) (fun l k h1 h2 _=>KL n l k ⟨h1.1,by omega⟩ (by have:=vf l;omega))) (fun n=>lI (gs:=gs) n (g6 b).1 (g6 b).2 ⟨B.l6.1,by have:=B.l6.2;omega⟩) (fun n=>DM (gs:=gs) n (bb (g6 b).1 (g6 b).2) (aC (g6 b).1 (g6 b).2) ⟨B.l7.1,by have:=B.l7.2;omega⟩)
 have e:gq (jk (bb (g6 b).1 (g6 b).2) (aC (g6 b).1 (g6 b).2)) ((g2 b).2.who,bg (g3 b).2.b,(g4 b).v.n,(g5 b).2.n,(if (g6 b).2=0 then oU (g5 b).1.1 (g5 b).1.2 else []))=dS b:=by
  unfold dS
  by_cases hz:gK b=0
  ·rw [YF (WM hz)];rfl
  ·show gq (gK b) _=gq (gK b) _
   unfold gq
   rw [YE hz,YE hz]
 rw [← e]
 exact h
end
end
section
open Go.RowKit Cal
theorem Ie {gs:List Nat} (l m:YD):cc gs Tryz.prog 36 [sX l,sX m] (.c (.bool (decide (l=m)))):=by
 refine fC 0 rfl fun hlen=>?_;refine fC 1 rfl fun hlen2=>?_;refine aj 26 Tryz.func36 fun al w0 F0 St0=>?_;refine U 52313167516 ?_;refine ap (fun h158=>?_) fun h158=>?_
 ·refine U 800030007000516 ?_;refine cB ?_
  exact (Zl (fun e=>by subst e;omega)).symm
 refine U 20513167810 ?_
 have hl:l.length=m.length:=by omega
 refine ax (α:=Nat) [4,5,13,14,15,16,17,18,19,20,21,22,23,24,25] (fun i=>[(13,.c (.int .i64 (i:Nat)))]) (fun _=>[]) (fun i=>i≤l.length∧∀ j,j<i→l.getD j []=m.getD j []) (fun i=>l.length-i) (0) ?_ (fun _=>rfl) ?_ ?_ ?_
 ·exact ⟨YT _,fun j hj=>absurd hj (YW j)⟩
 ·(repeat (first|exact bz.nil|refine bz.cons I ?_))
 ·(repeat (exact aP.nil))
 ·rintro i ⟨(hi:i≤l.length),he⟩
  refine U 7526 ?_;refine ap (fun h161=>?_) fun h161=>?_
  rotate_left
  ·refine U 8000700051684000200020006000 ?_;refine cB ?_
   refine (Zj (agx hl fun j h1 h2=>?_)).symm
   have:=he j O
   simpa [List.getD,h1,h2] using this
  refine U 75116207810 ?_;refine dY (.rd 0 (.rd 1 (.rd 2 (.rd 3 (.rd 4 (.rd 5 (.rd 6 (.rd 7 (.rd 8 .done))))))))) ?_;refine U 7000090000707070000900007070 ?_;refine aM Ff ?_;refine U 880 ?_;refine ap (fun h162=>?_) fun h162=>?_
  ·refine U 8000300050003000300050007000516 ?_;refine cB ?_
   exact (Zl (fun e=>by subst e;exact h162 rfl)).symm
  refine U 8519200840010 ?_;refine aw (i+1) ?_ ?_
  ·exact ⟨by omega,fun j hj=>by
    by_cases e:j=i
    ·subst e;simpa using h162
    ·exact he j O⟩
  ·show l.length-(i+1)<l.length-i;omega
theorem wC {a b:Q5}:a=b↔(a.1.1=b.1.1∧a.1.2.1=b.1.2.1∧a.1.2.2=b.1.2.2)∧a.2.1=b.2.1∧a.2.2.1=b.2.2.1∧a.2.2.2.1=b.2.2.2.1∧a.2.2.2.2=b.2.2.2.2:=by
 obtain ⟨⟨a1,a2,a3⟩,a4,a5,a6,a7⟩:=a
 obtain ⟨⟨b1,b2,b3⟩,b4,b5,b6,b7⟩:=b
 simp [and_assoc]
theorem oW {a b:Z}:(⟨a.toArray⟩:ByteArray)=⟨b.toArray⟩↔a=b:=⟨fun h=>bNx (bHx h),fun h=>by rw [h]⟩
theorem wc {gs:List Nat} (a b:Q5):cc gs Tryz.prog 13 [kx a,kx b] (.c (.bool (decide (a=b)))):=by
 refine aj 38 Tryz.func13 fun al w0 F0 St0=>?_;refine dP ?_
 refine au (ff 7 fun p1=>?_)
 refine au (ff 7 fun p2=>?_)
 refine U 651 ?_;refine jq (fF 0 3 true) ?_;refine gw (bq 3) ?_;refine jq (fF 0 3 true) ?_;refine gw (bq 3) ?_;refine jq (CG rfl rfl rfl Tryz.underlying31 (by kernel_rfl) (by kernel_rfl) (.int Tryz.underlying3 jD rfl rfl (.str Tryz.underlying9 jD rfl rfl (.str Tryz.underlying9 jD rfl rfl .nil))) rfl) ?_;refine U 1 ?_;refine aK 10 (fun g95=>?_) fun g95=>?_
 rotate_left
 ·refine U 800070005150044444150044444150044444150044444 ?_;refine cB ?_
  rw [show decide (a=b)=decide ((a.1.1=b.1.1∧a.1.2.1=b.1.2.1∧a.1.2.2=b.1.2.2)∧a.2.1=b.2.1∧a.2.2.1=b.2.2.1∧a.2.2.2.1=b.2.2.2.1∧a.2.2.2.2=b.2.2.2.2) from decide_eq_decide.2 wC]
  simp only [oW,bYx] at *
  (simp_all;done)
 refine U 110000000060000505000000505000000 ?_;refine aK 17 (fun g95_2=>?_) fun g95_2=>?_
 rotate_left
 ·refine U 800070005150044444150044444150044444 ?_;refine cB ?_
  rw [show decide (a=b)=decide ((a.1.1=b.1.1∧a.1.2.1=b.1.2.1∧a.1.2.2=b.1.2.2)∧a.2.1=b.2.1∧a.2.2.1=b.2.2.1∧a.2.2.2.1=b.2.2.2.1∧a.2.2.2.2=b.2.2.2.2) from decide_eq_decide.2 wC]
  simp only [oW,bYx] at *
  (simp_all;done)
 refine U 11000000002507000000507000000 ?_;refine aK 24 (fun g95_3=>?_) fun g95_3=>?_
 rotate_left
 ·refine U 800070005150044444150044444 ?_;refine cB ?_
  rw [show decide (a=b)=decide ((a.1.1=b.1.1∧a.1.2.1=b.1.2.1∧a.1.2.2=b.1.2.2)∧a.2.1=b.2.1∧a.2.2.1=b.2.2.1∧a.2.2.2.1=b.2.2.2.1∧a.2.2.2.2=b.2.2.2.2) from decide_eq_decide.2 wC]
  simp only [oW,bYx] at *
  (simp_all;done)
 refine U 11000000002506000000506000000 ?_;refine aK 31 (fun g95_4=>?_) fun g95_4=>?_
 ·refine U 50200000005020000000 ?_
  refine au (ar (Ie a.2.2.2.2 b.2.2.2.2) ?_)
  refine U 8000700051100000000 ?_;refine cB ?_
  rw [show decide (a=b)=decide ((a.1.1=b.1.1∧a.1.2.1=b.1.2.1∧a.1.2.2=b.1.2.2)∧a.2.1=b.2.1∧a.2.2.1=b.2.2.1∧a.2.2.2.1=b.2.2.2.1∧a.2.2.2.2=b.2.2.2.2) from decide_eq_decide.2 wC]
  simp only [oW,bYx] at *
  (simp_all;done)
 refine U 800070005150044444 ?_;refine cB ?_
 rw [show decide (a=b)=decide ((a.1.1=b.1.1∧a.1.2.1=b.1.2.1∧a.1.2.2=b.1.2.2)∧a.2.1=b.2.1∧a.2.2.1=b.2.2.1∧a.2.2.2.1=b.2.2.2.1∧a.2.2.2.2=b.2.2.2.2) from decide_eq_decide.2 wC]
 simp only [oW,bYx] at *
 (simp_all;done)
end
theorem my {k:IntKind} {a:Nat} (h:An k (a:Nat)):(BitVec.ofInt k.bits ((a:Nat):Int)).toNat=a:=by
 cases k <;> simp only [An] at h <;> simp [IntKind.bits] <;> omega
def X0:IntKind→Nat|.i64=>63|.u64=>64|.i32=>31|.u32=>32|.i16=>15|.u16=>16|.i8=>7|.u8=>8
theorem dI {k:IntKind} {a:Nat}:An k (a:Nat)↔a<2 ^ X0 k:=by
 cases k <;> simp only [An,X0] <;> omega
section
variable {P:Program} {G:Gh} {o:Oper} {s:AS} {t u:TypeId} {x y:Operand} {k k':IntKind} {a b n:Nat}
theorem dt (ho:o.op=.binOp .xor t x y u) (hx:s.eval x=.c (.int k (a:Nat))) (hy:s.eval y=.c (.int k (b:Nat))) (ha:An k (a:Nat)) (hb:An k (b:Nat)):ci P G o s (.c (.int k ((a ^^^ b:Nat):Int))) :=
 TU ho hx hy _ (by rw [BitVec.toNat_xor,my ha,my hb];exact cC (dI.2 (Nat.xor_lt_two_pow (dI.1 ha) (dI.1 hb))))
theorem nJ (ho:o.op=.binOp .or t x y u) (hx:s.eval x=.c (.int k (a:Nat))) (hy:s.eval y=.c (.int k (b:Nat))) (ha:An k (a:Nat)) (hb:An k (b:Nat)):ci P G o s (.c (.int k ((a ||| b:Nat):Int))) :=
 wB ho hx hy _ (by rw [BitVec.toNat_or,my ha,my hb];exact cC (dI.2 (Nat.or_lt_two_pow (dI.1 ha) (dI.1 hb))))
theorem k9 (ho:o.op=.binOp .and t x y u) (hx:s.eval x=.c (.int k (a:Nat))) (hy:s.eval y=.c (.int k (b:Nat))) (ha:An k (a:Nat)) (hb:An k (b:Nat)):ci P G o s (.c (.int k ((a &&& b:Nat):Int))) :=
 mI ho hx hy _ (by rw [BitVec.toNat_and,my ha,my hb];exact cC (dI.2 (a5x Nat.and_le_left (dI.1 ha))))
theorem i9 (ho:o.op=.binOp .shr t x y u) (hx:s.eval x=.c (.int k (a:Nat))) (hy:s.eval y=.c (.int k' (n:Nat))) (hn:n≤k.bits):ci P G o s (.c (.int k ((a >>> n:Nat):Int))) :=
 jI ho hx hy O _ (by
  rw [show min ((n:Nat):Int).toNat k.bits=n by omega,ZM]
  rw [Zz _ (by exact Int.pow_nonneg jD)]
  norm_cast)
theorem AW (ho:o.op=.binOp .shl t x y u) (hx:s.eval x=.c (.int k (a:Nat))) (hy:s.eval y=.c (.int k' (n:Nat))) (hn:n≤k.bits) (hr:An k ((a <<< n:Nat):Int)):ci P G o s (.c (.int k ((a <<< n:Nat):Int))) :=
 ic ho hx hy O _ (by
  rw [show min ((n:Nat):Int).toNat k.bits=n by omega]
  rw [aix] at hr ⊢
  have e:((a:Nat):Int) * 2 ^ n=((a * 2 ^ n:Nat):Int):=by norm_cast
  rw [e]
  exact cC hr)
theorem Qy (ho:o.op=.binOp .shl t x y u) (hx:s.eval x=.c (.int .u32 (a:Nat))) (hy:s.eval y=.c (.int k' (n:Nat))) (hn:n≤32):ci P G o s (.c (.int .u32 (((a <<< n) % 4294967296:Nat):Int))) :=
 ic ho hx hy O _ (by
  rw [show min ((n:Nat):Int).toNat IntKind.u32.bits=n by show min _ 32=n;omega,aix]
  have e:((a:Nat):Int) * 2 ^ n=((a * 2 ^ n:Nat):Int):=by norm_cast
  rw [e,IntKind.wrap_u32]
  generalize a * 2 ^ n=X
  omega)
theorem ft (ho:o.op=.binOp .add t x y u) (hx:s.eval x=.c (.int .u32 (a:Nat))) (hy:s.eval y=.c (.int .u32 (b:Nat))):ci P G o s (.c (.int .u32 (((a+b) % 4294967296:Nat):Int))) :=
 AY ho hx hy _ (by rw [IntKind.wrap_u32];omega)
end
def jg:Nat:=4294967296
def dA (x n:Nat):Nat:=x >>> n ||| (x <<< (32-n)) % jg
def nP (x:Nat):Nat:=4294967295-x
theorem CW {x:Nat} (h:x<jg) (i:Nat):(nP x).testBit i=(decide (i<32) && !x.testBit i):=by
 have e:nP x=2 ^ 32-(x+1):=by unfold nP;show 4294967295-x=4294967296-(x+1);omega
 rw [e]
 exact Nat.testBit_two_pow_sub_succ h i
theorem UU {x:Nat} (h:x<jg) {i:Nat} (hi:32≤i):x.testBit i=false:=Nat.testBit_lt_two_pow (Zf (m:=2 ^ 32) h (ZA jD hi))
theorem Ka {e f g:Nat} (he:e<jg) (hf:f<jg) (hg:g<jg):(e &&& f) ^^^ (nP e &&& g)=(e &&& f) ||| (nP e &&& g):=by
 refine bqx fun i=>?_
 simp only [bTx,Nat.testBit_or,Nat.testBit_and,CW he]
 cases e.testBit i <;> cases f.testBit i <;> cases g.testBit i <;> simp
theorem Rj (a b c:Nat):(a &&& b) ^^^ (a &&& c) ^^^ (b &&& c)=(a &&& b) ||| (a &&& c) ||| (b &&& c):=by
 refine bqx fun i=>?_
 simp only [bTx,Nat.testBit_or,Nat.testBit_and]
 cases a.testBit i <;> cases b.testBit i <;> cases c.testBit i <;> rfl
theorem ux {x y:Nat} (hx:x<jg) (hy:y<jg):x ||| y<jg:=Nat.or_lt_two_pow (n:=32) hx hy
theorem gz {x y:Nat} (hx:x<jg) (hy:y<jg):x ^^^ y<jg:=Nat.xor_lt_two_pow (n:=32) hx hy
theorem fB {x y:Nat} (hx:x<jg):x &&& y<jg:=a5x Nat.and_le_left hx
theorem nG {x n:Nat} (hx:x<jg):x >>> n<jg:=by rw [ZM];exact a5x (bRx _ _) hx
theorem be {x n:Nat} (hx:x<jg):dA x n<jg:=ux (nG hx) (Z0 _ jD)
theorem not_lt (x:Nat):nP x<jg:=by unfold nP jg;omega
def Lm (x:Nat):Nat:=dA x 7 ^^^ dA x 18 ^^^ x >>> 3
def Ll (x:Nat):Nat:=dA x 17 ^^^ dA x 19 ^^^ x >>> 10
def P1 (x:Nat):Nat:=dA x 2 ^^^ dA x 13 ^^^ dA x 22
def P0 (x:Nat):Nat:=dA x 6 ^^^ dA x 11 ^^^ dA x 25
def Ko (b:Z) (p:Nat):Nat:=(b.getD p 0).toNat * 16777216+(b.getD (p+1) 0).toNat * 65536+(b.getD (p+2) 0).toNat * 256+(b.getD (p+3) 0).toNat
def uz (w:List Nat) (i:Nat):Nat:=(w.getD (i-16) 0+Lm (w.getD (i-15) 0)+w.getD (i-7) 0+Ll (w.getD (i-2) 0)) % jg
def aH (b:Z):Nat→List Nat
 | 0=>[]
 | i+1=>aH b i++[if i<16 then Ko b (4 * i) else uz (aH b i) i]
def cY (v:List Nat) (i:Nat):Nat:=v.getD i 0
def tM (v:List Nat) (k w:Nat):Nat:=cY v 7+P0 (cY v 4)+((cY v 4 &&& cY v 5) ||| (nP (cY v 4) &&& cY v 6))+k+w
def uM (v:List Nat):Nat:=P1 (cY v 0)+((cY v 0 &&& cY v 1) ||| (cY v 0 &&& cY v 2) ||| (cY v 1 &&& cY v 2))
def o8 (v:List Nat) (k w:Nat):List Nat:=[(tM v k w+uM v) % jg,cY v 0,cY v 1,cY v 2,(cY v 3+tM v k w) % jg,cY v 4,cY v 5,cY v 6]
def dR (h:List Nat) (b:Z):Nat→List Nat
 | 0=>h
 | i+1=>o8 (dR h b i) (kL.getD i 0) ((aH b 64).getD i 0)
def me (h:List Nat) (b:Z):List Nat:=(List.range 8).map fun i=>(cY h i+cY (dR h b 64) i) % jg
def eD (h:List Nat) (b:Z):Nat→List Nat
 | 0=>h
 | j+1=>me (eD h b j) ((b.drop (64 * j)).take 64)
def VD (n:Nat):Z:=(List.range 8).map fun i=>UInt8.ofNat (n >>> (8 * (7-i)))
def rl (n:Nat):Z:=128::(List.replicate ((119-n % 64) % 64) 0++VD (8 * n))
def wH (h:List Nat):Z:=(h.map fun w=>[UInt8.ofNat (w >>> 24),UInt8.ofNat (w >>> 16),UInt8.ofNat (w >>> 8),UInt8.ofNat w]).flatten
def ij (b:Z):Z:=wH (eD firstL (b++rl b.length) ((b++rl b.length).length / 64))
theorem Mm (n:Nat):(n+(rl n).length) % 64=0:=by
 unfold rl VD
 simp only [List.length_cons,YI,avx,Zy,List.length_range]
 omega
theorem iB (b:Z):∀ i,(aH b i).length=i
 | 0=>rfl
 | i+1=>by show (aH b i++[_]).length=_;rw [YI,iB b i];rfl
theorem qZ (b:Z) {i j:Nat} (h:i<j):(aH b j).getD i 0=if i<16 then Ko b (4 * i) else uz (aH b i) i:=by
 induction j with
 | zero=>omega
 | succ j ih =>
  show (aH b j++[_]).getD i 0=_
  have hl:=iB b j
  by_cases e:i=j
  ·subst e
   simp [List.getD,hl]
  ·rw [← ih O]
   simp [List.getD,YL (show i<(aH b j).length by omega)]
theorem FL (b:Z) (p:Nat):Ko b p<jg:=by
 have h0:=(b.getD p 0).toNat_lt
 have h1:=(b.getD (p+1) 0).toNat_lt
 have h2:=(b.getD (p+2) 0).toNat_lt
 have h3:=(b.getD (p+3) 0).toNat_lt
 unfold Ko jg
 omega
theorem yJ (b:Z) {i j:Nat} (h:i<j):(aH b j).getD i 0<jg:=by
 rw [qZ b h]
 split
 ·exact FL _ _
 ·exact Z0 _ jD
def jp (h:List Nat):Prop:=h.length=8∧∀ i,cY h i<jg
theorem mb:jp firstL:=⟨rfl,fun i=>by
 rcases i with _|_|_|_|_|_|_|_|i
 all_goals first|(show (_:Nat)<4294967296;decide)|(show (0:Nat)<4294967296;decide)⟩
theorem B0 {v:List Nat} (h:jp v) (k w:Nat):jp (o8 v k w):=⟨rfl,fun i=>by
 obtain ⟨_,hv⟩:=h
 rcases i with _|_|_|_|_|_|_|_|i
 ·exact Z0 _ jD
 ·exact hv 0
 ·exact hv 1
 ·exact hv 2
 ·exact Z0 _ jD
 ·exact hv 4
 ·exact hv 5
 ·exact hv 6
 ·show (0:Nat)<4294967296;decide⟩
theorem nz {v:List Nat} (h:jp v) (b:Z):∀ i,jp (dR v b i)
 | 0=>h
 | i+1=>B0 (nz h b i) _ _
theorem Eo {v:List Nat} (b:Z):jp (me v b):=⟨by simp [me],fun i=>by
 unfold me cY
 by_cases hi:i<8
 ·simp only [List.getD,ZB,aEx hi,awx,Zw]
  exact Z0 _ jD
 ·rw [YH,Y6 (by simp;omega)]
  decide⟩
theorem kU {v:List Nat} (h:jp v) (b:Z):∀ j,jp (eD v b j)
 | 0=>h
 | j+1=>Eo _
theorem xD (v:List Nat) (a b:Z):∀ j,64 * j≤a.length→eD v (a++b) j=eD v a j
 | 0,_=>rfl
 | j+1,h=>by
  show me (eD v (a++b) j) (((a++b).drop (64 * j)).take 64)=me (eD v a j) ((a.drop (64 * j)).take 64)
  rw [xD v a b j O,brx O,aLx (by rw [YN];omega)]
def fj (m:Z):List Nat:=eD firstL m (m.length / 64)
def bY (m:Z):Z:=m.drop (64 * (m.length / 64))
theorem re (m:Z):(bY m).length=m.length % 64:=by unfold bY;rw [YN];omega
theorem Qa (m:Z):ij m=wH (fj (m++rl m.length)):=rfl
theorem Q2 {h:List Nat} (hw:jp h):(wH h).length=32:=by
 obtain ⟨hl,_⟩:=hw
 rcases h with _|⟨a,_|⟨b,_|⟨c,_|⟨d,_|⟨e,_|⟨f,_|⟨g,_|⟨i,_|⟨j,r⟩⟩⟩⟩⟩⟩⟩⟩⟩ <;> first|rfl|(simp at hl;done)|(simp at hl)
theorem pL (m:Z):(ij m).length=32:=Q2 (kU mb _ _)
def rn (l:List Nat) (i:Nat):CV:=.c (.int .i64 ((cY l i:Nat):Int))
def XZ (l:List Nat):CV:=.rs 1 l.length fun i _=>rn l i
theorem AP:FR 1 rn:=fun l l2 j hj=>by
 simp only [rn,cY,YH]
 split
 ·rw [YL O]
 ·rw [YX O,Ze]
theorem Of (L:List Nat) (j:Nat) (hj:j<L.length):aa (fl (L.map fun z:Nat=>.c (.int .i64 (z:Int))) j) (rn L j):=aa.of_eq (by
 rw [dJ]
 simp [List.getD,hj,rn,cY])
theorem NW {cs:List CV} {l2:List Nat} (h:oQ cs (l2.map fun c:Nat=>.c (.int .i64 (c:Int)))):∀ j,j<l2.length * 1→aa (fl cs (0+j)) (rn l2 j):=fun j hj=>by
 rw [Nat.zero_add]
 exact ((vr h).2 j).trans (Of l2 j O)
theorem Ax {G:Gh} {s:AS} (d:Nat) {i n N:Nat} {g:Option Nat} {F:Nat→CV} (l:List Nat) (hl:look s.env s.b d=.os i g 0 n 1) (hH:s.H[i]?=some (g,.frz N F)) (hn:n=l.length) (hN:Nat.ble n N=true) (he:∀ j,j<l.length→aa (F j) (rn l j)) :
  dh G s ⟨(d,XZ l)::s.env,s.b,s.H⟩:=by
 subst hn
 have hN:=YU hN
 exact kg d (fun a _=>rn l a) hl hH O (fun a b ha hb=>by
  have:=he a ha
  rwa [show 0+(a * 1+b)=a by omega])
theorem Eb {z:Int} {a:Nat} (h:z=(a:Nat)) (ha:a<9223372036854775808):IntKind.i64.wrap (BitVec.ofInt (IntKind.bits .i64) z &&& BitVec.ofInt (IntKind.bits .i64) 4294967295).toNat=((a % 4294967296:Nat):Int):=by
 subst h
 have h1:(BitVec.ofInt (IntKind.bits .i64) ((a:Nat):Int)).toNat=a:=my (k:=.i64) (dI.2 ha)
 have h2:(BitVec.ofInt (IntKind.bits .i64) ((4294967295:Nat):Int)).toNat=4294967295:=my (k:=.i64) (dI.2 jD)
 have h2:(BitVec.ofInt (IntKind.bits .i64) (4294967295:Int)).toNat=4294967295:=h2
 rw [BitVec.toNat_and,h1,h2,show (4294967295:Nat)=2 ^ 32-1 from rfl,aJx]
 exact cC (dI.2 (a5x (Nat.mod_le _ _) ha))
theorem AF {s:Int} (a n:Nat) (h:s=(n:Nat)) (hn:n≤64):((a:Nat):Int).fdiv (2 ^ min s.toNat (IntKind.bits .i64))=((a >>> n:Nat):Int):=by
 subst h
 have e1:min ((n:Nat):Int).toNat (IntKind.bits .i64)=n:=by show min _ 64=_;omega
 have e2:(2:Int) ^ n=((2 ^ n:Nat):Int):=by simp
 rw [e1,Zz _ (b6x (Int.pow_pos jD)),e2,← a1x,ZM]
theorem u9 {s:Int} (a n:Nat) (h:s=(n:Nat)) (hn:n≤64) (ha:a * 2 ^ n<9223372036854775808):IntKind.i64.wrap (((a:Nat):Int) * 2 ^ min s.toNat (IntKind.bits .i64))=((a * 2 ^ n:Nat):Int):=by
 subst h
 have e1:min ((n:Nat):Int).toNat (IntKind.bits .i64)=n:=by show min _ 64=_;omega
 have e2:(2:Int) ^ n=((2 ^ n:Nat):Int):=by simp
 rw [e1,e2,← bQx]
 exact cC (dI.2 ha)
theorem jZ {gs:List Nat} (x n:Nat) (hx:x<jg) (h1:1≤n) (hn:n≤32):cc gs Tryz.prog 232 [.c (.int .i64 (x:Nat)),.c (.int .i64 (n:Nat))] (.c (.int .i64 ((dA x n:Nat):Int))):=by
 have hx':x<4294967296:=hx
 have h2:x * 2 ^ (32-n)<9223372036854775808:=by
  have h3:2 ^ (32-n)≤2 ^ 31:=ZA jD O
  exact Nat.mul_lt_mul_of_lt_of_le hx' h3 jD
 have b1:An .i64 ((x >>> n:Nat):Int):=dI.2 (Zf (nG hx) jD)
 have b2:An .i64 ((x * 2 ^ (32-n) % 4294967296:Nat):Int):=dI.2 (Zf (Z0 _ jD) jD)
 obtain ⟨y,hy⟩:∃ y,y=x * 2 ^ (32-n):=⟨_,rfl⟩
 have e1:=u9 (s:=32-(n:Int)) x (32-n) O O h2
 rw [← hy] at e1 h2 b2
 refine aj 16 Tryz.func232 fun al w0 F0 St0=>?_;refine U 116516 ?_;refine jq (vi .i64 .u64) ?_;refine jq (jI rfl rfl rfl (by (omega)) (((x >>> n:Nat):Int)) ((AF x n rfl O))) ?_;refine U 911 ?_;refine jq (vi .i64 .u64) ?_;refine jq (ic rfl rfl rfl (by (omega)) (((y:Nat):Int)) (e1)) ?_;refine jq (mI rfl rfl rfl (((y % 4294967296:Nat):Int)) ((Eb rfl h2))) ?_;refine jq (nJ rfl rfl rfl b1 b2) ?_;refine U 8000700051 ?_
 unfold dA jg;rw [aix,← hy];exact I
theorem Oj {gs:List Nat}:AC gs Tryz.prog 231 [] [] (sV 8 1 8 (rn firstL)):=by
 refine aj 2 Tryz.func231 fun al w0 F0 St0=>?_;refine U 6516 ?_
 refine au (aY 8 1 uh fun p1=>?_)
 refine U 700051 ?_
 exact oE 0 (.inl rfl) (av rfl (ak rfl)) rfl rfl (YG _) (fun _=>rfl) oB
theorem KQ (j:Nat) (hj:j<64):aa (fl (kL.map fun z:Nat=>.c (.int .i64 (z:Int))) j) (rn kL j):=Of kL j hj
theorem KR {gs:List Nat}:AC gs Tryz.prog 230 [] [] (sV 64 1 64 (rn kL)):=by
 refine aj 2 Tryz.func230 fun al w0 F0 St0=>?_;refine U 6516 ?_
 refine au (aY 64 1 uh fun p1=>?_)
 refine U 700051 ?_
 exact oE 0 (.inl rfl) (av rfl (ak rfl)) rfl rfl (YG _) (fun _=>rfl) KQ
theorem W0 {n:Nat} (h1:1≤n) (h2:n≤31):IntKind.u64.wrap (BitVec.ofInt IntKind.u64.bits ((18446744073709551616-n:Nat):Int) &&& BitVec.ofInt IntKind.u64.bits 31).toNat=((32-n:Nat):Int):=by
 have e:BitVec.ofInt IntKind.u64.bits 31=BitVec.ofInt IntKind.u64.bits ((31:Nat):Int):=rfl
 rw [e,BitVec.toNat_and,my (k:=.u64) (by show _∧_;omega),my (k:=.u64) (by show _∧_;omega)]
 rw [show (31:Nat)=2 ^ 5-1 from rfl,aJx,IntKind.wrap_u64]
 omega
theorem l9 {x:Nat} (h:x<jg):An .u32 (x:Nat):=by unfold jg at h;show _∧_;omega
theorem TQ {gs:List Nat} (x n:Nat) (hx:x<jg) (h1:1≤n) (h2:n≤31):cc gs Tryz.prog 281 [.c (.int .u32 (x:Nat)),.c (.int .i64 ((0:Int)-(n:Nat)))] (.c (.int .u32 (dA x n:Nat))):=by
 refine aj 17 Tryz.func281 fun al w0 F0 St0=>?_;refine U 16516 ?_;refine jq (cG rfl rfl Tryz.underlying3 Tryz.underlying35 (((18446744073709551616-n:Nat):Int)) ((by rw [IntKind.wrap_u64];omega))) ?_;refine jq (mI rfl rfl rfl (((32-n:Nat):Int)) ((W0 h1 h2))) ?_;refine U 11651 ?_;refine jq (Qy rfl rfl rfl O) ?_;refine U 11 ?_;refine jq (Qx rfl rfl rfl (((n:Nat):Int)) ((by rw [IntKind.wrap_u64];omega))) ?_;refine jq (i9 rfl rfl rfl (by show n≤32;omega)) ?_;refine jq (nJ rfl rfl rfl (l9 (Z0 _ jD)) (l9 (nG hx))) ?_;refine U 51 ?_
 refine jR (eA (hv:=cI (by rw [Nat.or_comm];rfl)))
theorem eZ {gs:List Nat} (x n:Nat) (hx:x<jg) (h1:1≤n) (h2:n≤31):cc gs Tryz.prog 268 [.c (.int .u32 (x:Nat)),.c (.int .i64 (n:Nat))] (.c (.int .u32 (dA x n:Nat))):=by
 refine aj 9 Tryz.func268 fun al w0 F0 St0=>?_;refine U 116516 ?_
 first|refine jq (LT rfl rfl _ (cC (k:=.i64) (by show _∧_;(first|omega|decide|(dsimp only at *;omega))))) ?_|refine jq (LT rfl rfl _ rfl) ?_
 refine au (ar (TQ x n hx h1 h2) ?_)
 refine U 51 ?_
 refine jR (eA (hv:=I))
end Am
end Go.Proofs.YtghminnpfnkbjaaGreatDoor
