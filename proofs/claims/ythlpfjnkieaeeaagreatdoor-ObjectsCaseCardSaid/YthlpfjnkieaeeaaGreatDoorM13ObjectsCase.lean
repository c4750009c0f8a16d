/- What the law leans on, part 13: L19a, L19c, Open, Open2 -/
import Derived.Test.YthlpfjnkieaeeaaGreatDoorM12ObjectsCase
import Derived.ChangeArms
import Derived.ChangeOld
import Derived.OpenShut

set_option maxRecDepth 100000
namespace Go.Proofs.YthlpfjnkieaeeaaGreatDoor
set_option linter.unusedVariables false
namespace Am
open Go.RowKit
section
open Go.RowKit Cal
def caseV (who:S3) (rq:List UInt8) (cr vd:Int) (bd ct:List UInt8):List V4:=[⟨0,[],[],who⟩,⟨0,[],rq,zeroS⟩,⟨cr,[],[],zeroS⟩,⟨vd,[],[],zeroS⟩,⟨0,[],bd,zeroS⟩,⟨0,[],ct,zeroS⟩]
def authV (gn:Int) (dr:List UInt8) (ph fr tt la gi:Int):List V4:=[⟨gn,[],[],zeroS⟩,⟨0,[],dr,zeroS⟩,⟨ph,[],[],zeroS⟩,⟨fr,[],[],zeroS⟩,⟨tt,[],[],zeroS⟩,⟨la,[],[],zeroS⟩,⟨gi,[],[],zeroS⟩]
def markV (gn se at_ na:Int):List V4:=[⟨gn,[],[],zeroS⟩,⟨se,[],[],zeroS⟩,⟨at_,[],[],zeroS⟩,⟨na,[],[],zeroS⟩]
def tickV (nd se:List UInt8) (ex:Int):List V4:=[⟨0,nd,[],zeroS⟩,⟨0,[],se,zeroS⟩,⟨ex,[],[],zeroS⟩]
def issV (bd tk:List UInt8):List V4:=[⟨0,[],bd,zeroS⟩,⟨0,[],tk,zeroS⟩]
theorem norm_case (who:S3) (rq:List UInt8) (cr vd:Int) (bd ct:List UInt8):NormFs fsCase (caseV who rq cr vd bd ct) :=
 ⟨.inl ⟨rfl,rfl⟩,.inr (.inr (.inl ⟨rfl,rfl⟩)),.inr (.inr (.inr (.inr ⟨rfl,rfl⟩))),.inr (.inl ⟨.inr rfl,rfl⟩),.inr (.inr (.inl ⟨rfl,rfl⟩)),.inr (.inr (.inl ⟨rfl,rfl⟩)),trivial⟩
theorem ofcase_ac {gs:List Nat} (who:S3) (rq:List UInt8) (cr vd:Int) (bd ct:List UInt8):ACp gs Tryz.prog 19 [.agg 8 (caseF (caseV who rq cr vd bd ct))] (v4sC (caseV who rq cr vd bd ct)):=by
 refine ac_of 22 Tryz.func19 rfl rfl rfl (fun al w0 F0 St0=>?_)
 refine jcr ?_
 refine jqe (jebx 8 fun p1=>?_)
 refine jU 651 ?_;refine jq (jrfa 0 3 true) ?_;refine jqo (jrdoA 3) ?_;refine jq (rd_build (n:=6) rfl zr120 pl120 rfl rfl) ?_;refine jU 505000000 ?_;refine jq (rd_build (n:=6) rfl zr120 pl120 rfl rfl) ?_;refine jU 507000000 ?_;refine jq (rd_build (n:=6) rfl zr120 pl120 rfl rfl) ?_;refine jU 506000000 ?_;refine jq (rd_build (n:=6) rfl zr120 pl120 rfl rfl) ?_;refine jU 5020000000 ?_;refine jq (rd_build (n:=6) rfl zr120 pl120 rfl rfl) ?_;refine jq (jrfa 7 1 false) ?_;refine jU 50 ?_;refine jq (rd_build (n:=6) rfl zr120 pl120 rfl rfl) ?_
 refine jqe (jebl 36 6 zr120 (l:=[.c (.int .i64 0),strC [],.c (.slice none 0 0),.c (.int .i64 who.1),strC who.2.1,strC who.2.2,.c (.int .i64 0),strC [],bsC rq,.c (.int .i64 0),strC [],strC [],.c (.int .i64 cr),strC [],.c (.slice none 0 0),.c (.int .i64 0),strC [],strC [],.c (.int .i64 vd),strC [],.c (.slice none 0 0),.c (.int .i64 0),strC [],strC [],.c (.int .i64 0),strC [],bsC bd,.c (.int .i64 0),strC [],strC [],.c (.int .i64 0),strC [],bsC ct,.c (.int .i64 0),strC [],strC []]) (hf:=by kernel_rfl) fun p2=>?_)
 refine jU 51 ?_;refine jE (freeze 1 rfl) ?_;refine jE (thaw 2 (fun a b=>v4E ((caseV who rq cr vd bd ct).getD a V4.z) b) rfl rfl (by decide) (fun a b ha hb=>by rcases a with _|_|_|_|_|_|a <;> (rcases b with _|_|_|_|_|_|b <;> first|exact cZ|exact cN|omega))) ?_
 refine jR (jrt (hv:=cZ))
theorem told_bad {gs:List Nat} [OkG gs] (kind:Int) (fs:List Fd) (vs:List V4) (h8:fs.length≤8) (hl:vs.length=fs.length) (hs:(kind=2→6≤fs.length)∧(kind=3→5≤fs.length)) (hr:rightRec kind fs vs=false):ACp gs Tryz.prog 17 [rrC kind fs,v4sC vs,bsC [],.err 4] (.c (.bool true)):=by
 refine ac_of 39 Tryz.func17 rfl rfl rfl (fun al w0 F0 St0=>?_)
 refine jcr ?_
 refine jqe (jebx 2 fun p1=>?_)
 refine jU 6751 ?_;refine jqo (jrdoA 2) ?_;refine jU 1 ?_
 refine jqe (jecP ((by have h:=rright19_ac (gs:=gs) kind fs vs h8 hl hs;rw [hr] at h;exact h)) ?_ (ho:=rfl) (he:=(.cons (se rfl (CEnt.agg rfl (fun j hj=>by rcases j with _|_|j <;> exact cZ))) (.cons (se rfl cZ) .nil))))
 refine jU 530 ?_;refine jcc (fun h43=>?_) fun h43=>?_
 rotate_left
 ·exfalso;exact absurd h43 (by decide)
 refine jU 12316 ?_;refine jqsp 16 (fun g44=>?_) fun g44=>?_
 ·refine jU 1 ?_
  refine jqe (jecP (num_ac 4 (by decide)) ?_)
  refine jU 5180002 ?_
  refine jR (jtr (jrt (hv:=?_)))
  (refine cB ?_;rfl)
 refine jU 51500444 ?_
 refine jR (jtr (jrt (hv:=?_)))
 (exfalso;simp_all;done)
theorem told_ok {gs:List Nat} [OkG gs] [OkT gs] (kind:Int) (fs:List Fd) (vs:List V4) (hk:KindOk kind) (ho:∀ f ∈ fs,OkF f) (h8:fs.length≤8) (hs:(kind=2→6≤fs.length)∧(kind=3→5≤fs.length)) (hn:NormFs fs vs) (hr:rightRec kind fs vs=true) (hK:kindB (recB kind fs vs)=kind):ACp gs Tryz.prog 17 [rrC kind fs,v4sC vs,bsC (recB kind fs vs),.err 0] (.c (.bool true)):=by
 have hg:GoodFs fs vs:=by
  have h:=hr
  unfold rightRec at h
  rw [Bool.and_eq_true] at h
  exact goods_right hn h.1
 have hl:=(good_length hg).symm
 have hb:=(rec_len hk ho h8 hg).2
 refine ac_of 39 Tryz.func17 rfl rfl rfl (fun al w0 F0 St0=>?_)
 refine jcr ?_
 refine jqe (jebx 2 fun p1=>?_)
 refine jU 6751 ?_;refine jqo (jrdoA 2) ?_;refine jU 1 ?_
 refine jqe (jecP ((by have h:=rright19_ac (gs:=gs) kind fs vs h8 hl hs;rw [hr] at h;exact h)) ?_ (ho:=rfl) (he:=(.cons (se rfl (CEnt.agg rfl (fun j hj=>by rcases j with _|_|j <;> exact cZ))) (.cons (se rfl cZ) .nil))))
 refine jU 530 ?_;refine jcc (fun h43=>?_) fun h43=>?_
 ·exfalso;exact absurd h43 (by decide)
 refine jU 7810 ?_;refine jcd (.rd 0 (.rd 1 (.rd 2 (.rd 3 (.rd 4 (.rd 5 (.rd 6 (.one 7 (.rd 8 (.rd 9 (.rd 10 (.rd 11 (.rd 12 (.rd 14 (.rd 15 (.one 13 (.rd 16 (.rd 17 (.rd 18 .done))))))))))))))))))) ?_;refine jU 70 ?_;refine jyq jre ?_;refine jU 70 ?_;refine jysp 23 (fun g46=>?_) fun g46=>?_
 rotate_left
 ·refine jU 600600600600 ?_;refine jys1 ?_;refine jU 60060060070300000600600 ?_;refine jys1 ?_;refine jU 88070300000600 ?_
  refine jR (jrt (hv:=?_))
  refine cB ?_
  (simp_all;done)
 refine jU 70 ?_;refine jyq (rd_convBS rfl rfl Tryz.underlying22 Tryz.underlying5 Tryz.underlying9) ?_;refine jyo (jrdoA 2) ?_;refine jU 70 ?_
 refine jye (jecP (rbytes19_ac kind hk fs vs ho h8 hg) ?_ (ho:=rfl) (he:=(.cons (se rfl (CEnt.agg rfl (fun j hj=>by rcases j with _|_|j <;> exact cZ))) (.cons (se rfl cZ) .nil))))
 refine jyq (rd_convBS rfl rfl Tryz.underlying22 Tryz.underlying5 Tryz.underlying9) ?_;refine jyq (rd_eqS rfl rfl rfl) ?_;refine jU 703000000 ?_;refine jysp 32 (fun g46_2=>?_) fun g46_2=>?_
 ·refine jU 1000090000070 ?_
  refine jye (jecP ((by have h:=kind19_ac (gs:=gs) (recB kind fs vs) (by omega);rw [hK] at h;exact h)) ?_)
  refine jU 880703000000800 ?_
  refine jR (jrt (hv:=?_))
  refine cB ?_
  (simp;done)
 refine jU 600600600 ?_;refine jys1 ?_;refine jU 88070300000600 ?_
 refine jR (jrt (hv:=?_))
 refine cB ?_
 (simp_all;done)
theorem told19_ac {gs:List Nat} [OkG gs] [OkT gs] (kind:Int) (fs:List Fd) (vs:List V4) (hk:KindOk kind) (ho:∀ f ∈ fs,OkF f) (h8:fs.length≤8) (hl:vs.length=fs.length) (hs:(kind=2→6≤fs.length)∧(kind=3→5≤fs.length)) (hn:NormFs fs vs) (hK:rightRec kind fs vs=true→kindB (recB kind fs vs)=kind):ACp gs Tryz.prog 17 [rrC kind fs,v4sC vs,bsC (if rightRec kind fs vs=true then recB kind fs vs else []),.err (if rightRec kind fs vs=true then 0 else 4)] (.c (.bool true)):=by
 cases hr:rightRec kind fs vs with
 | true=>exact told_ok kind fs vs hk ho h8 hs hn hr (hK hr)
 | false=>exact told_bad kind fs vs h8 hl hs hr
def exA:List V4:=caseV (1,[],[97]) [114] 0 1 [] []
def exB:List V4:=caseV (1,[],[97]) [114] 0 1 [] [99]
theorem ex_right:rightRec 2 fsCase exA=true∧rightRec 2 fsCase exB=false∧10<(recB 2 fsCase exA).length:=by decide +kernel
theorem alive19_ac {gs:List Nat} [OkG gs] [OkT gs]:ACp gs Tryz.prog 15 [] (.c (.bool true)):=by
 obtain ⟨ra,rb,rl⟩:=ex_right
 have hA:=bytesCase_ac (gs:=gs) _ _ _ _ _ _ (norm_case (1,[],[97]) [114] 0 1 [] [])
 have hB:=bytesCase_ac (gs:=gs) _ _ _ _ _ _ (norm_case (1,[],[97]) [114] 0 1 [] [99])
 have ra':rightRec 2 fsCase (caseV (1,[],[97]) [114] 0 1 [] [])=true:=ra
 have rb':rightRec 2 fsCase (caseV (1,[],[97]) [114] 0 1 [] [99])=false:=rb
 have rl':(10:Int)<((recB 2 fsCase [⟨0,[],[],(1,[],[97])⟩,⟨0,[],[114],zeroS⟩,⟨0,[],[],zeroS⟩,⟨1,[],[],zeroS⟩,⟨0,[],[],zeroS⟩,⟨0,[],[],zeroS⟩]).length:Nat):=Int.ofNat_lt.2 rl
 refine ac_of 35 Tryz.func15 rfl rfl rfl (fun al w0 F0 St0=>?_)
 refine jU 6516 ?_;refine jq (rd_build (n:=3) rfl zr36 pl36 rfl rfl) ?_
 refine jqe (jebl 1 1 zr5 fun p1=>?_)
 refine jqm (jmcv ?_)
 refine seq_ent (thawBL 8 [114] rfl rfl rfl rfl (.cons cZ .nil)) ?_;refine jq (rd_build (n:=8) rfl zr38 pl38 rfl rfl) ?_
 refine jqe (jeal (n:=8) zr38 rfl fun p2=>?_)
 refine jqm (jmstF 8 (caseF exA) ?_ ?_)
 ·exact (fun j hj=>by rcases j with _|_|_|_|_|_|_|_|j <;> first|exact cZ|exact cN|omega)
 refine jU 65 ?_;refine jqo (jrdoA 8) ?_
 refine jqe (jecP ((by have h:=hA;unfold caseV at ra';erw [if_pos ra',if_pos ra'] at h;exact h)) ?_ (ho:=rfl) (he:=(.cons (se rfl (CEnt.agg rfl (fun j hj=>by rcases j with _|_|_|_|_|_|_|_|j <;> exact cZ))) .nil)))
 refine jU 65119009001 ?_
 refine jqe (jebl 1 1 zr5 fun p3=>?_)
 refine jqm (jmcv ?_)
 refine seq_ent (thawBL 16 [99] rfl rfl rfl rfl (.cons cZ .nil)) ?_;refine jq (jrfa 7 1 false) ?_
 refine jqm (jmstF 1 (caseF exB) ?_ ?_)
 ·exact (fun j hj=>by rcases j with _|_|_|_|_|_|_|_|j <;> exact cZ)
 refine jU 65 ?_;refine jqo (jrdoA 8) ?_
 refine jqe (jecP ((by have h:=hB;unfold caseV at rb';erw [if_neg (by rw [rb'];decide),if_neg (by rw [rb'];decide)] at h;exact h)) ?_ (ho:=rfl) (he:=(.cons (se rfl (CEnt.agg rfl (fun j hj=>by rcases j with _|_|_|_|_|_|_|_|j <;> exact cZ))) .nil)))
 refine jU 1500000165119009001 ?_;refine jqsp 25 (fun g17=>?_) fun g17=>?_
 rotate_left
 ·refine jU 515004441500444 ?_
  refine jR (jrt (hv:=?_))
  first
  |(exfalso;omega)
  |(refine cB ?_;first|rfl|(simp;done)|(rw [decide_eq_true rl'];rfl)|(simp_all;done))
 refine jU 18000231 ?_;refine jqsp 30 (fun g17_2=>?_) fun g17_2=>?_
 ·refine jU 1 ?_
  refine jqe (jecP (num_ac 4 (by decide)) ?_)
  refine jU 5180002 ?_
  refine jR (jrt (hv:=?_))
  first
  |(exfalso;omega)
  |(refine cB ?_;rfl)
 refine jU 51500444 ?_
 refine jR (jrt (hv:=?_))
 first
 |(exfalso;omega)
 |(refine cB ?_;first|rfl|(simp;done)|(rw [decide_eq_true rl'];rfl)|(simp_all;done))
end
section
open Go.RowKit Cal
theorem case_told {gs:List Nat} [OkG gs] [OkT gs] (who:S3) (rq:List UInt8) (cr vd:Int) (bd ct:List UInt8):ACp gs Tryz.prog 17 [rrC 2 fsCase,v4sC (caseV who rq cr vd bd ct),bsC (if rightRec 2 fsCase (caseV who rq cr vd bd ct)=true then recB 2 fsCase (caseV who rq cr vd bd ct) else []),.err (if rightRec 2 fsCase (caseV who rq cr vd bd ct)=true then 0 else 4)] (.c (.bool true)) :=
 told19_ac 2 fsCase _ (by unfold KindOk;decide) ok_case (by decide) rfl (by decide) (norm_case who rq cr vd bd ct) (kind_case (norm_case who rq cr vd bd ct))
set_option maxHeartbeats 2000000 in
theorem objectsCase_ac {gs:List Nat} [OkG gs] [OkT gs] (who:S3) (rq:List UInt8) (cr vd:Int) (bd ct:List UInt8):ACp gs Tryz.prog 4 [.agg 8 (caseF (caseV who rq cr vd bd ct))] (.c (.bool true)):=by
 have hn:=norm_case who rq cr vd bd ct
 have hB:=bytesCase_ac (gs:=gs) _ _ _ _ _ _ hn
 have hT:=case_told (gs:=gs) who rq cr vd bd ct
 have hk:KindOk 2:=by unfold KindOk;decide
 have hrl:rightRec 2 fsCase (caseV who rq cr vd bd ct)=true→(recB 2 fsCase (caseV who rq cr vd bd ct)).length≤33100:=fun h=>by
  unfold rightRec at h
  rw [Bool.and_eq_true] at h
  exact (rec_len hk ok_case (by decide) (goods_right hn h.1)).2
 have hF:=recM_fwd hk ok_case (by decide) hn
 obtain ⟨V,hV⟩:∃ V,V=caseV who rq cr vd bd ct:=⟨_,rfl⟩
 have hO:=ofcase_ac (gs:=gs) who rq cr vd bd ct
 have hO':ACp gs Tryz.prog 19 [.agg 8 (caseF V)] (v4sC V):=by rw [hV];exact hO
 have hB':ACp gs Tryz.prog 16 [.agg 8 (caseF V)] (.tup 2 (fl [bsC (if rightRec 2 fsCase V=true then recB 2 fsCase V else []),.err (if rightRec 2 fsCase V=true then 0 else 4)])):=by rw [hV];exact hB
 have hl:V.length=6:=by rw [hV];rfl
 rw [← hV] at hT hrl hF
 refine ac_of 66 Tryz.func4 rfl rfl rfl (fun al w0 F0 St0=>?_)
 refine jcr ?_
 refine jqe (jebx 8 fun p1=>?_)
 refine jU 6751 ?_
 refine jqe (jecP alive19_ac ?_)
 refine jU 530 ?_;refine jcc (fun h51=>?_) fun h51=>?_
 ·exfalso;exact absurd h51 (by decide)
 refine jU 12350500000067810 ?_;refine jqsp 12 (fun g54=>?_) fun g54=>?_
 ·refine jU 516900058000444441800044444180004444180004444 ?_
  refine jR (jtr (jrt (hv:=cZ)))
 refine jU 1500235020000000 ?_;refine jqsp 18 (fun g54_2=>?_) fun g54_2=>?_
 ·refine jU 516900058000444441800044444180004444 ?_
  refine jR (jtr (jrt (hv:=cZ)))
 refine jq (jrfa 7 1 false) ?_;refine jU 15002350 ?_;refine jqsp 24 (fun g54_3=>?_) fun g54_3=>?_
 ·refine jU 516900058000444441800044444 ?_
  refine jR (jtr (jrt (hv:=cZ)))
 refine jq (jrfa 0 3 true) ?_;refine jU 501000 ?_;refine jq (rd_lenS rfl rfl Tryz.underlying9) ?_;refine jU 15002 ?_;refine jqsp 31 (fun g54_4=>?_) fun g54_4=>?_
 ·refine jU 51690005800044444 ?_
  refine jR (jtr (jrt (hv:=cZ)))
 refine jq (jrfa 0 3 true) ?_;refine jU 50100 ?_;refine jq (rd_lenS rfl rfl Tryz.underlying9) ?_;refine jU 55002 ?_;refine jcc (fun h54=>?_) fun h54=>?_
 ·refine jU 516 ?_
  refine jR (jtr (jrt (hv:=cZ)))
 refine jU 6810 ?_;refine jqo (jrdoA 8) ?_
 refine jqe (jecP (hB') ?_ (ho:=rfl) (he:=(.cons (se rfl (by rw [hV];exact CEnt.agg rfl (fun j hj=>by rcases j with _|_|_|_|_|_|_|_|j <;> exact cZ))) .nil)))
 refine jU 775119009001 ?_;refine jcd (.rd 1 (.rd 3 (.rd 4 (.one 0 (.one 2 (.one 5 (.rd 6 .done))))))) ?_;refine jyo (jrdoA 8) ?_;refine jU 7070 ?_
 refine jye (jecP rcase19_ac ?_)
 refine jye (jecP (hO') ?_ (ho:=rfl) (he:=(.cons (se rfl (by rw [hV];exact CEnt.agg rfl (fun j hj=>by rcases j with _|_|_|_|_|_|_|_|j <;> exact cZ))) .nil)))
 refine jye (jecP hT ?_)
 refine jU 880100000 ?_;refine jcc (fun h58=>?_) fun h58=>?_
 ·exfalso;exact absurd h58 (by decide)
 refine jU 5500000167810 ?_;refine jcc (fun h61=>?_) fun h61=>?_
 ·refine jU 516 ?_
  refine jR (jtr (jrt (hv:=cZ)))
 refine jU 810 ?_
 have hr:rightRec 2 fsCase V=true:=by
  cases h:rightRec 2 fsCase V with
  | true=>rfl
  | false=>exfalso;simp_all
 rw [if_pos hr,if_pos hr]
 refine jU 16 ?_
 refine jqe (jecP ((by have h:=readCase_ac (gs:=gs) (recB 2 fsCase V) (by have:=hrl hr;omega);rw [hF hr] at h;exact h)) ?_)
 refine jU 9009001 ?_
 refine jqe (jeal (n:=8) zr38 rfl fun p2=>?_)
 refine jqm (jmstF 8 (caseF V) ?_ ?_)
 ·exact (fun j hj=>by rcases j with _|_|_|_|_|_|_|_|j <;> first|exact cZ|omega)
 refine jU 751 ?_;refine jcd (.rd 0 (.rd 1 (.rd 2 (.rd 3 (.rd 5 (.one 4 (.one 6 (.one 7 (.rd 8 (.rd 9 .done)))))))))) ?_;refine jU 70 ?_;refine jyq jre ?_;refine jU 70 ?_;refine jysp 59 (fun g65=>?_) fun g65=>?_
 rotate_left
 ·exfalso;exact absurd rfl g65
 refine jyo (jrdoA 8) ?_;refine jyo (jrdoA 8) ?_
 refine jye (jecP (hO') ?_ (ho:=rfl) (he:=(.cons (se rfl (by exact CEnt.agg rfl (fun j hj=>by rcases j with _|_|_|_|_|_|_|_|j <;> exact cZ))) .nil)))
 refine jye (jecP (hO') ?_ (ho:=rfl) (he:=(.cons (se rfl (by rw [hV];exact CEnt.agg rfl (fun j hj=>by rcases j with _|_|_|_|_|_|_|_|j <;> exact cZ))) .nil)))
 refine jye (jecP (rsame19_ac V (by omega)) ?_)
 refine jU 880703000000 ?_
 refine jR (jrt (hv:=cZ))
end
section
open Go.RowKit Go.ChangeShapes
def Opens (P:Program) (t:TypeId) (k:Nat) (D:Type) (φ:D→Prop) (E:D→Nat→CV):Prop :=
 ∀ (H:Type) (enc:TypeId×Value→H) (W:World) (fuel:Nat) (cs:List Value) (y:DataW H×List MemPlace),DataW.trod enc P W 0 (fun _=>true) true fuel t cs=some y →
  cs.length=k∧∃ x:D,φ x∧∀ al j,j<k→RepC al (fun b=>b<W.heap.size) W (E x j) (cs.getD j undef)
section
variable {P:Program} {t:TypeId}
theorem one_cell {al:List Addr} {W:World} {St:Nat→Prop} {c:Nat→CV} {v:Value} (h:RepC al St W (c 0) v):∀ j,j<1→RepC al St W (c j) ([v].getD j undef):=fun j hj=>by
 obtain rfl:j=0:=by omega
 exact h
theorem opens_i64 (hu:P.underlying t=some (.int .i64)):Opens P t 1 Int (fun z=>-9223372036854775808≤z∧z≤9223372036854775807) (fun z _=>.c (.int .i64 z)):=fun H enc W fuel cs y h=>by
 obtain ⟨n,rfl,_,hw⟩:=DataW.trod_int hu h
 exact ⟨rfl,n,bounds_i64 hw,fun al=>one_cell rfl⟩
theorem opens_u8 (hu:P.underlying t=some (.int .u8)):Opens P t 1 UInt8 (fun _=>True) (fun z _=>.c (.int .u8 (z.toNat:Nat))):=fun H enc W fuel cs y h=>by
 obtain ⟨n,rfl,_,hw⟩:=DataW.trod_int hu h
 have hb:=bounds_u8 hw
 refine ⟨rfl,UInt8.ofNat n.toNat,trivial,fun al=>one_cell ?_⟩
 show Value.int .u8 n=.int .u8 ((UInt8.ofNat n.toNat).toNat:Nat)
 rw [UInt8.toNat_ofNat']
 congr 1
 omega
theorem opens_slice {e:TypeId} {k:Nat} {D:Type} {φ:D→Prop} {E:D→Nat→CV} (d0:D) (ho:Opens P e k D φ E) (hu:P.underlying t=some (.slice e)) (hk:P.cellsOf e=k) (hk0:0<k) :
  Opens P t 1 (List D) (fun l=>l.length≤maxLen∧∀ x ∈ l,φ x) (fun l _=>.rs k l.length fun i j=>E (l.getD i d0) j):=fun H enc W fuel cs y h=>by
 rcases DataW.trod_slice hu h with ⟨rfl,_⟩|⟨a,len,cap,elems,rest,n,_,rfl,_,_,hle,hm,hl,hel,_⟩
 ·exact ⟨rfl,[],⟨by simp,by simp⟩,fun al=>one_cell ⟨none,0,rfl,Nat.le_refl _,by decide,fun _=>rfl,fun _ h=>by cases h⟩⟩
 ·refine ⟨rfl,?_⟩
  subst hk
  have key:∀ i,∃ x:D,i<len→φ x∧∀ al j,j<P.cellsOf e→∃ v,W.cell? (a.add (i * P.cellsOf e+j))=some v∧RepC al (fun b=>b<W.heap.size) W (E x j) v:=fun i=>by
   by_cases hi:i<len
   ·have h1:=hel i hi
    rw [List.getElem?_eq_getElem (by omega)] at h1
    obtain ⟨cs,h2,h3⟩:=Option.bind_eq_some_iff.1 h1
    obtain ⟨_,h4,h5⟩:=World.cells?_some h2
    obtain ⟨_,x,hx,hr⟩:=ho H enc W n cs _ h3
    refine ⟨x,fun _=>⟨hx,fun al j hj=>⟨cs.getD j undef,?_,hr al j hj⟩⟩⟩
    have:=h5 j hj
    rw [Addr.add_add] at this
    rw [this]
    simp [h4,hj]
   ·exact ⟨d0,fun h=>absurd h hi⟩
  obtain ⟨F,hF⟩:∃ F:Nat→D,∀ i,i<len→φ (F i)∧∀ al j,j<P.cellsOf e→∃ v,W.cell? (a.add (i * P.cellsOf e+j))=some v∧RepC al (fun b=>b<W.heap.size) W (E (F i) j) v :=
   ⟨fun i=>(key i).choose,fun i hi=>(key i).choose_spec hi⟩
  have hm':cap≤9223372036854775807:=by unfold maxLen at hm;omega
  refine ⟨(List.range len).map F,⟨by simp;omega,by simp only [List.mem_map,List.mem_range];rintro x ⟨i,hi,rfl⟩;exact (hF i hi).1⟩,fun al=>one_cell ?_⟩
  refine ⟨some a,cap,by simp,by simpa using hle,hm',by simp,fun b hb hn=>?_⟩
  cases hb
  simp at hn
  obtain ⟨v0,hv0,_⟩:=(hF 0 hn).2 al 0 hk0
  have hsp:a.spot=none:=by
   have:=World.cell?_spot hv0
   obtain ⟨b,o,sp⟩:=a
   simpa [Addr.add] using this
  refine ⟨hsp,?_,fun i j hi hj=>?_⟩
  ·have:=World.block_lt_of_cell? W _ hv0
   obtain ⟨b,o,sp⟩:=a
   simpa [Addr.add] using this
  ·simp at hi
   obtain ⟨v,hv,hr⟩:=(hF i hi).2 al j hj
   refine ⟨v,?_,by simpa [List.getD,hi] using hr⟩
   obtain ⟨b,o,sp⟩:=a
   simp only at hsp
   subst hsp
   rwa [Addr.add_lit] at hv
def OpensF (P:Program) (fs:List Field) (D:Type) (φ:D→Prop) (E:D→Nat→CV) (C:Nat→Bool):Prop :=
 ∀ (H:Type) (enc:TypeId×Value→H) (W:World) (cs:List Value),(∀ f ∈ fs,∃ n y,DataW.trod enc P W 0 (fun _=>true) true n f.type ((cs.drop f.offset).take (P.cellsOf f.type))=some y) →
  ∃ x:D,φ x∧∀ al j,C j=true→RepC al (fun b=>b<W.heap.size) W (E x j) (cs.getD j undef)
theorem opensF_nil:OpensF P [] Unit (fun _=>True) (fun _ _=>.top) (fun _=>false):=fun H enc W cs _=>⟨(),trivial,fun al j h=>by cases h⟩
theorem opensF_cons {f:Field} {fs:List Field} {k:Nat} {D1 D2:Type} {φ1:D1→Prop} {φ2:D2→Prop} {E1:D1→Nat→CV} {E2:D2→Nat→CV} {C2:Nat→Bool} (h1:Opens P f.type k D1 φ1 E1) (h2:OpensF P fs D2 φ2 E2 C2) :
  OpensF P (f::fs) (D1×D2) (fun x=>φ1 x.1∧φ2 x.2) (fun x j=>match Nat.ble f.offset j && Nat.blt j (f.offset+k) with|true=>E1 x.1 (j-f.offset)|false=>E2 x.2 j) (fun j=>(Nat.ble f.offset j && Nat.blt j (f.offset+k)) || C2 j):=fun H enc W cs h=>by
 obtain ⟨n,y,hy⟩:=h f (List.mem_cons_self ..)
 obtain ⟨hl,x1,p1,r1⟩:=h1 H enc W n _ y hy
 obtain ⟨x2,p2,r2⟩:=h2 H enc W cs fun g hg=>h g (List.mem_cons_of_mem _ hg)
 refine ⟨(x1,x2),⟨p1,p2⟩,fun al j hj=>?_⟩
 cases hb:Nat.ble f.offset j && Nat.blt j (f.offset+k) with
 | true =>
  have hb0:=hb
  simp only [Bool.and_eq_true] at hb
  have b1:f.offset≤j:=Nat.le_of_ble_eq_true hb.1
  have b2:j<f.offset+k:=Nat.le_of_ble_eq_true hb.2
  have:=r1 al (j-f.offset) (by omega)
  simp only [List.length_take,List.length_drop] at hl
  rw [List.getD_eq_getElem?_getD,List.getElem?_take,if_pos (by omega),List.getElem?_drop,show f.offset+(j-f.offset)=j by omega,← List.getD_eq_getElem?_getD] at this
  simp only [hb0]
  exact this
 | false =>
  simp only [hb,Bool.false_or] at hj
  simp only [hb]
  exact r2 al j hj
theorem opens_struct {fs:Array Field} {n:Nat} {D:Type} {φ:D→Prop} {E:D→Nat→CV} {C:Nat→Bool} (hu:P.underlying t=some (.struct fs)) (hn:P.cellsOf t=n) (ho:OpensF P fs.toList D φ E C) (hC:(List.range n).all C=true):Opens P t n D φ E:=fun H enc W fuel cs y h=>by
 obtain ⟨xs,m,_,_,hl,hlen,hf⟩:=DataW.trod_struct hu h
 obtain ⟨x,hx,hr⟩:=ho H enc W cs fun f hf'=>by
  obtain ⟨i,hi⟩:=List.mem_iff_getElem?.1 hf'
  rw [Array.getElem?_toList] at hi
  have:=hf i f hi
  have hlt:i<xs.length:=by rw [hlen];exact (Array.getElem?_eq_some_iff.1 hi).1
  rw [List.getElem?_eq_getElem hlt] at this
  exact ⟨m,_,this⟩
 exact ⟨hl.trans hn,x,hx,fun al j hj=>hr al j (List.all_eq_true.1 hC j (List.mem_range.2 hj))⟩
theorem arg_agg {n:Nat} {D:Type} {φ:D→Prop} {E:D→Nat→CV} (ho:Opens P t n D φ E) {H:Type} {enc:TypeId×Value→H} {W:World} {cs:Array Value} {d:DataW H} {p:List MemPlace} (h:DataW.Trod enc P W 0 (fun _=>true) true t (.agg cs) d p) :
  ∃ x:D,φ x∧∀ al,RepC al (fun b=>b<W.heap.size) W (.agg n (E x)) (.agg cs):=by
 obtain ⟨fuel,hf⟩:=h
 obtain ⟨hl,x,hx,hr⟩:=ho H enc W fuel _ _ hf
 refine ⟨x,hx,fun al=>⟨cs,rfl,by simpa [Value.cells] using hl,fun i hi=>?_⟩⟩
 have:=hr al i hi
 simpa [Value.cells] using this
end
end
section
open Go.RowKit Go.ChangeShapes
theorem opens_strL {P:Program} {t:TypeId} (hu:P.underlying t=some .string):Opens P t 1 (List UInt8) (fun s=>s.length≤maxLen) (fun z _=>strC z):=fun H enc W fuel cs y h=>by
 obtain ⟨n,rfl,_,hs⟩:=DataW.trod_string hu h
 obtain ⟨l,rfl⟩:=ba_list n
 exact ⟨rfl,l,hs,fun al=>one_cell rfl⟩
end
end Am
end Go.Proofs.YthlpfjnkieaeeaaGreatDoor
