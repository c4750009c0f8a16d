/- What the law leans on, part 10: AmX, W13c, W05r, P08k, P19b, P19c, W08q, W08r, W08s, W08t, W05i, W08s7, W09u, W19a, W19b, W19c, W11w, W13j, P13s, W13b, AmZ, W13d, W13e, W13i, L13a, W11g, W11h -/
import Derived.Test.YtnijncmifjnifaaGreatDoorM9BundleRead

set_option maxRecDepth 100000
namespace Go.Proofs.YtnijncmifjnifaaGreatDoor
set_option linter.unusedVariables false
namespace Am
open Go.RowKit
section
section
variable {κ β:Type} [DecidableEq κ] {kv:κ→Value} {P:Program} {G:Gh} {o:Oper} {K:AS→Prop} {t kt et:TypeId} {x y z:Operand} {vC:β→CV} {l:List (κ×β)} {k:κ} {g:Nat} {env:List (Nat×CV)} {b0:Nat→CV} {H:List (Option Nat×Res)}
theorem jmms {cy cz:CV} (i:Nat) (u:β) (h1:P.underlying t=some (.map kt et)) (h2:KeyK P kt kv) (hy:KeyC cy (kv k)) (hc:CEnt cz (vC u)) (hK:K ⟨env,b0,H.set i (some g,.obj (mapO kv vC (mset l k u)))⟩) (ho:o.op=.mapUpdate t x y z:=by exact rfl) (hx:(⟨env,b0,H⟩:AS).eval x=.c (.map (some g)):=by exact rfl) (hy':(⟨env,b0,H⟩:AS).eval y=cy:=by exact rfl) (hz:(⟨env,b0,H⟩:AS).eval z=cz:=by exact rfl) (hH:H[i]?=some (some g,.obj (mapO kv vC l)):=by exact rfl) (hd:o.dst=none:=by exact rfl):AMd P G o ⟨env,b0,H⟩ K :=
 md_mset (.inl ho) hx hH (by rw [hy'];exact hy) hz hc h1 h2 (dst_n hd) (by rw [with_none hd];exact hK)
end
section
variable {κ β:Type} {P:Program} {G:Gh} {o:Oper} {K:AS→Prop} {t:TypeId} {env:List (Nat×CV)} {b0:Nat→CV} {H:List (Option Nat×Res)}
theorem jemm (kv:κ→Value) (vC:β→CV) {d:Nat} (hK:∀ g:Nat,K ⟨(d,.c (.map (some g)))::env,b0,H++[(some g,.obj (mapO kv vC []))]⟩) (ho:o.op=.makeMap t none:=by exact rfl) (hd:o.dst=some d:=by exact rfl) (hN:Nat.blt d G.N=true:=by exact rfl):AEx P G o ⟨env,b0,H⟩ K :=
 ex_makeMap kv vC ho (dst_s hd hN) (fun g=>by rw [with_some hd];exact hK g)
end
end
section
open Go.RowKit Cal
theorem keyK_s13:KeyK Tryz.prog 9 keyV:=keyK_str (by kernel_rfl)
theorem aright_ac {gs:List Nat} [Ok9 gs] (a:N4):ACp gs Tryz.prog 65 [anC a] (.c (.bool (rightN a))):=by
 have hm:=mnum_ac (gs:=gs) a.2.1
 cases hx:hexOk a.2.1 with
 | false =>
  rw [hx] at hm
  simp only [Bool.false_eq_true,if_false] at hm
  refine ac_oF 40 Tryz.func65 fun al w0 F0 St0=>?_;refine jcr ?_
  refine jqe (jebx 4 fun p1=>?_)
  refine jU 50100651 ?_;refine jF1 1500000165119009001 hm ?_;refine jF4 110000000025090 8000700051500444150044444150044415004441500444 13 (fun g32=>?_) fun g32=>?_
  rotate_left
  ·refine cB ?_
   unfold rightN
   rw [hx]
   rfl
  refine jF4 110000000025090 800070005150044415004444415004441500444 18 (fun g32_2=>?_) fun g32_2=>?_
  rotate_left
  ·refine cB ?_
   unfold rightN
   rw [hx]
   omega
  refine jF4 11000000002501000 80007000515004441500444441500444 23 (fun g32_3=>?_) fun g32_3=>?_
  rotate_left
  ·refine cB ?_
   unfold rightN
   rw [hx]
   omega
  refine jF4 11000000002505000000501000 8000700051500444150044444 28 (fun g32_4=>?_) fun g32_4=>?_
  rotate_left
  ·refine cB ?_
   unfold rightN
   rw [hx]
   omega
  refine jF4 80007000511000000002505000000 8000700051500444 35 (fun g32_5=>?_) fun g32_5=>?_
  ·refine cB ?_
   unfold rightN
   rw [hx]
   omega
  refine cB ?_
  unfold rightN
  rw [hx]
  omega
 | true =>
  rw [hx] at hm
  simp only [if_true] at hm
  refine ac_oF 40 Tryz.func65 fun al w0 F0 St0=>?_;refine jcr ?_
  refine jqe (jebx 4 fun p1=>?_)
  refine jU 50100651 ?_;refine jF1 1500000165119009001 hm ?_;refine jF4 110000000025090 8000700051500444150044444150044415004441500444 13 (fun g32=>?_) fun g32=>?_
  rotate_left
  ·refine cB ?_
   unfold rightN inB
   rw [hx]
   (simp_all;done)
  refine jF4 110000000025090 800070005150044415004444415004441500444 18 (fun g32_2=>?_) fun g32_2=>?_
  rotate_left
  ·refine cB ?_
   unfold rightN inB
   rw [hx]
   (rw [Bool.eq_iff_iff];simp_all;omega)
  refine jF4 11000000002501000 80007000515004441500444441500444 23 (fun g32_3=>?_) fun g32_3=>?_
  rotate_left
  ·refine cB ?_
   unfold rightN inB
   rw [hx]
   (rw [Bool.eq_iff_iff];simp_all;omega)
  refine jF4 11000000002505000000501000 8000700051500444150044444 28 (fun g32_4=>?_) fun g32_4=>?_
  rotate_left
  ·refine cB ?_
   unfold rightN inB
   rw [hx]
   (rw [Bool.eq_iff_iff];simp_all;omega)
  refine jF4 80007000511000000002505000000 8000700051500444 35 (fun g32_5=>?_) fun g32_5=>?_
  ·refine cB ?_
   unfold rightN inB
   rw [hx]
   (rw [Bool.eq_iff_iff];simp_all;omega)
  refine cB ?_
  unfold rightN inB
  rw [hx]
  (rw [Bool.eq_iff_iff];simp_all;omega)
set_option maxHeartbeats 4000000 in
theorem bright_ac {gs:List Nat} [Ok9 gs] (b:B3):ACp gs Tryz.prog 26 [bnC b] (.c (.bool (rightB b))):=by
 refine ac_oF 73 Tryz.func26 fun al w0 F0 St0=>?_;refine jcr ?_
 refine jqe (jebx 3 fun p1=>?_)
 refine jU 751 ?_;refine jE (blk_ent 0 (m:=3) (F:=bnF b) rfl (by decide) (fun _=>rfl) (fun j hj=>CEnt.of_eq (fl_map _ hj))) ?_;refine jU 1250906 ?_;refine jF4 80003000700051690005100000000444411000000004444110000000044441100000000444 150025090 9 (fun g37=>?_) fun g37=>?_
 ·refine cB ?_
  unfold rightB inB
  (simp_all;omega)
 refine jF4 8000300070005169000510000000044441100000000444411000000004444 50100 14 (fun g37_2=>?_) fun g37_2=>?_
 ·refine cB ?_
  unfold rightB inB
  (simp_all;omega)
 refine jF1 150030 (label_ac b.2.1) ?_;refine jF4 80003000700051690005100000000444411000000004444 150023501000 20 (fun g37_3=>?_) fun g37_3=>?_
 ·refine cB ?_
  unfold rightB inB
  (simp_all;done)
 refine jF4 800030007000516900051000000004444 550023501000 26 (fun g37_4=>?_) fun g37_4=>?_
 ·refine cB ?_
  unfold rightB inB
  (simp_all;omega)
 refine jF3 800030007000516 6810 (fun h37=>?_) fun h37=>?_
 ·refine cB ?_
  unfold rightB inB
  (simp_all;omega)
 refine jqe (jemm keyV oneC (fun gm=>?_))
 refine jU 205135010006751 ?_
 refine jlp (α:=Nat) [2,2,4,5,36,72] (fun i=>[(36,.c (.int .i64 (i:Nat)))]) (fun i=>[(p1,.blk 3 (bnF b)),(some gm,.obj (mapO keyV oneC (seenM b.2.2 i)))]) (fun i=>i≤b.2.2.length∧goesTo b.2.2 i=true) (fun i=>b.2.2.length-i) 0 (h0:=⟨Nat.zero_le _,rfl⟩) (hr:=?_)
 rintro i ⟨(hi:i≤b.2.2.length),hg⟩
 refine jU 7526 ?_;refine jF3 70016207810 8000700051684000200020006000 (fun h41=>?_) fun h41=>?_
 rotate_left
 ·refine cB ?_
  have hil:i=b.2.2.length:=by omega
  unfold rightB inB
  rw [← hil,hg]
  (simp_all;omega)
 refine jq (jrdrA 4) ?_
 refine jqe (jeal (n:=4) zr33 rfl fun p2=>?_)
 refine jU 1 ?_
 refine jqm (jmstF 4 (anF (b.2.2.getD i a00)) ?_ ?_)
 ·exact jal
 refine jU 775 ?_;refine jcd (oT [0,3,4,6,8,10,12,14,16,18,20,22,24,26,28,30,32,34,36,38,40,42,44,46,48,50] .done) ?_;refine jyo (jrdoA 4) ?_
 refine jye (jecP (aright_ac (b.2.2.getD i a00)) ?_)
 refine jU 70100000 ?_;refine jysp 44 (fun g42=>?_) fun g42=>?_
 ·refine jU 8000300050003000300050003000700051690008803000000600600600600600600600600600600600600600600703000000600600600600600 ?_
  have ho:okN b.2.2 i=false:=okN_bad (by omega) (by (left;simp_all;done))
  refine cB ?_
  unfold rightB
  rw [goes_no ho (by omega),Bool.and_false]
 refine jU 10000800000070 ?_;refine jyo (rd_mget (i:=1) (k:=(b.2.2.getD i a00).2.1) (vC:=oneC) (l:=seenM b.2.2 i) (v:=oneC ((mget (seenM b.2.2 i) (b.2.2.getD i a00).2.1).getD 0)) rfl rfl rfl (keyC_str rfl) Tryz.underlying111 keyK_s13 zr3 (fun u hu=>by rw [hu];exact cZ) (fun h=>by rw [h];exact cZ)) ?_;refine jU 70300000800 ?_;refine jysp 51 (fun g42_2=>?_) fun g42_2=>?_
 ·refine jU 8000300050003000300050003000700051690008803000000600600600600600600600600600600600600600600 ?_
  have ho:okN b.2.2 i=false:=okN_bad (by omega) (by (right;left;simp_all;done))
  refine cB ?_
  unfold rightB
  rw [goes_no ho (by omega),Bool.and_false]
 refine jU 7080070 ?_;refine jysp 54 (fun g42_3=>?_) fun g42_3=>?_
 rotate_left
 ·refine jU 810300880300000300000600600600600600600600600600600 ?_
  have hs0:¬ 0<(mget (seenM b.2.2 i) (b.2.2.getD i a00).2.1).getD 0:=by
   omega
  have hok:okN b.2.2 i=true:=okN_good hg (by omega) (by (simp_all;done)) hs0 (by omega)
  refine jU 501001200 ?_;refine jqo (rd_mget (i:=1) (k:=(b.2.2.getD i a00).2.1) (vC:=oneC) (l:=seenM b.2.2 i) (v:=oneC ((mget (seenM b.2.2 i) (b.2.2.getD i a00).2.1).getD 0)) rfl rfl rfl (keyC_str rfl) Tryz.underlying111 keyK_s13 zr3 (fun u hu=>by rw [hu];exact cZ) (fun h=>by rw [h];exact cZ)) ?_;refine jU 9 ?_
  refine jqm (jmms (vC:=oneC) 1 ((mget (seenM b.2.2 i) (b.2.2.getD i a00).2.1).getD 0+1) Tryz.underlying111 keyK_s13 (keyC_str (k:=(b.2.2.getD i a00).2.1) rfl) (cz:=.c (.int .i64 (((mget (seenM b.2.2 i) (b.2.2.getD i a00).2.1).getD 0:Nat)+1))) (cI (by omega)) ?_)
  rw [seen_next (by omega) hs0]
  refine jU 851920084005 ?_
  refine jlend (i+1) (h1:=?_)
  ·refine ⟨by omega,?_⟩
   show (goesTo b.2.2 i && okN b.2.2 i)=true
   rw [hg,hok]
   rfl
 refine jyq (jrfa 2 1 false) ?_;refine jU 300007010000 ?_;refine jyq (jri (i:=(i-1)) (hz:=by omega)) ?_;refine jU 88030000030000008001000090000070000900000 ?_;refine jF3 80003000500030003000500030007000516 810 (fun h42=>?_) fun h42=>?_
 ·have ho:okN b.2.2 i=false:=okN_bad (by omega) (by (right;right;simp_all;done))
  refine cB ?_
  unfold rightB
  rw [goes_no ho (by omega),Bool.and_false]
 have hs0:¬ 0<(mget (seenM b.2.2 i) (b.2.2.getD i a00).2.1).getD 0:=by
  omega
 have hok:okN b.2.2 i=true:=okN_good hg (by omega) (by (simp_all;done)) hs0 (by omega)
 refine jU 501001200 ?_;refine jqo (rd_mget (i:=1) (k:=(b.2.2.getD i a00).2.1) (vC:=oneC) (l:=seenM b.2.2 i) (v:=oneC ((mget (seenM b.2.2 i) (b.2.2.getD i a00).2.1).getD 0)) rfl rfl rfl (keyC_str rfl) Tryz.underlying111 keyK_s13 zr3 (fun u hu=>by rw [hu];exact cZ) (fun h=>by rw [h];exact cZ)) ?_;refine jU 9 ?_
 refine jqm (jmms (vC:=oneC) 1 ((mget (seenM b.2.2 i) (b.2.2.getD i a00).2.1).getD 0+1) Tryz.underlying111 keyK_s13 (keyC_str (k:=(b.2.2.getD i a00).2.1) rfl) (cz:=.c (.int .i64 (((mget (seenM b.2.2 i) (b.2.2.getD i a00).2.1).getD 0:Nat)+1))) (cI (by omega)) ?_)
 rw [seen_next (by omega) hs0]
 refine jU 851920084005 ?_
 refine jlend (i+1) (h1:=?_)
 ·refine ⟨by omega,?_⟩
  show (goesTo b.2.2 i && okN b.2.2 i)=true
  rw [hg,hok]
  rfl
theorem beh_no {l:List N4} {i k:Nat} (hk:k<i) (h:(l.getD i a00).1≤(l.getD k a00).1∨(l.getD k a00).2.1=(l.getD i a00).2.1):okN l i=false:=by
 cases e:okN l i with
 | false=>rfl
 | true =>
  exfalso
  unfold okN at e
  rw [Bool.and_eq_true,beh_iff] at e
  have:=e.2 k hk
  rcases h with h|h
  ·omega
  ·exact this.2 h
theorem beh_all {l:List N4} {i:Nat} (h1:rightN (l.getD i a00)=true) (h:∀ k,k<i→(l.getD k a00).1<(l.getD i a00).1∧(l.getD k a00).2.1≠(l.getD i a00).2.1):okN l i=true:=by
 unfold okN
 rw [h1,beh_iff.2 h]
 rfl
set_option maxHeartbeats 4000000 in
theorem rbright_ac {gs:List Nat} (b:B3) (hk:∀ i,(b.2.2.getD i a00).2.1.length≤1000000):ACp gs Tryz.prog 27 [bnC b] (.c (.bool (rightB b))):=by
 refine ac_oF 97 Tryz.func27 fun al w0 F0 St0=>?_;refine jcr ?_
 refine jqe (jebx 3 fun p1=>?_)
 refine jU 751 ?_;refine jE (blk_ent 0 (m:=3) (F:=bnF b) rfl (by decide) (fun _=>rfl) (fun j hj=>CEnt.of_eq (fl_map _ hj))) ?_;refine jU 1250906 ?_;refine jF4 80003000700051690005100000000444411000000004444110000000044441100000000444 150025090 9 (fun g27=>?_) fun g27=>?_
 ·refine cB ?_
  unfold rightB inB
  (simp_all;omega)
 refine jF4 8000300070005169000510000000044441100000000444411000000004444 50100 14 (fun g27_2=>?_) fun g27_2=>?_
 ·refine cB ?_
  unfold rightB inB
  (simp_all;omega)
 refine jF1 150030 (rlabel_ac b.2.1) ?_;refine jF4 80003000700051690005100000000444411000000004444 150023501000 20 (fun g27_3=>?_) fun g27_3=>?_
 ·refine cB ?_
  unfold rightB inB
  (simp_all;done)
 refine jF4 800030007000516900051000000004444 550023501000 26 (fun g27_4=>?_) fun g27_4=>?_
 ·refine cB ?_
  unfold rightB inB
  (simp_all;done)
 refine jF3 800030007000516 2051350100067810 (fun h27=>?_) fun h27=>?_
 ·refine cB ?_
  unfold rightB inB
  (simp_all;omega)
 refine jlp (α:=Nat) [2,5,35,96] (fun i=>[(35,.c (.int .i64 (i:Nat)))]) (fun i=>[(p1,.blk 3 (bnF b))]) (fun i=>i≤b.2.2.length∧goesTo b.2.2 i=true) (fun i=>b.2.2.length-i) 0 (h0:=⟨Nat.zero_le _,rfl⟩) (hr:=?_)
 rintro i ⟨(hi:i≤b.2.2.length),hg⟩
 refine jU 7526 ?_;refine jF3 70016207810 8000700051684000200020006000 (fun h30=>?_) fun h30=>?_
 rotate_left
 ·refine cB ?_
  have hil:i=b.2.2.length:=by omega
  unfold rightB inB
  rw [← hil,hg]
  grind
 refine jq (jrdrA 4) ?_
 refine jqe (jeal (n:=4) zr42 rfl fun p2=>?_)
 refine jU 1 ?_
 refine jqm (jmstF 4 (anF (b.2.2.getD i a00)) ?_ ?_)
 ·exact jal
 refine jU 125090675 ?_;refine jF4 80003000500030003000500030007000516900051000000004441100000000444441100000000444110000000044441100000000444 150025090 43 (fun g31=>?_) fun g31=>?_
 ·have ho:okN b.2.2 i=false:=by
   have hr:rightN (b.2.2.getD i a00)=false:=by
    unfold rightN inB
    (simp_all;omega)
   unfold okN
   rw [hr]
   rfl
  refine cB ?_
  unfold rightB
  rw [goes_no ho (by omega),Bool.and_false]
 refine jF4 8000300050003000300050003000700051690005100000000444110000000044444110000000044411000000004444 50100 48 (fun g31_2=>?_) fun g31_2=>?_
 ·have ho:okN b.2.2 i=false:=by
   have hr:rightN (b.2.2.getD i a00)=false:=by
    unfold rightN inB
    (simp_all;omega)
   unfold okN
   rw [hr]
   rfl
  refine cB ?_
  unfold rightB
  rw [goes_no ho (by omega),Bool.and_false]
 refine jF1 150030 (rid_ac (b.2.2.getD i a00).2.1 (hk i)) ?_;refine jF4 80003000500030003000500030007000516900051000000004441100000000444441100000000444 15002501000 54 (fun g31_3=>?_) fun g31_3=>?_
 ·have ho:okN b.2.2 i=false:=by
   have hr:rightN (b.2.2.getD i a00)=false:=by
    unfold rightN inB
    (simp_all;done)
   unfold okN
   rw [hr]
   rfl
  refine cB ?_
  unfold rightB
  rw [goes_no ho (by omega),Bool.and_false]
 refine jF4 8000300050003000300050003000700051690005100000000444110000000044444 15002501000505000000 59 (fun g31_4=>?_) fun g31_4=>?_
 ·have ho:okN b.2.2 i=false:=by
   have hr:rightN (b.2.2.getD i a00)=false:=by
    unfold rightN inB
    (simp_all;omega)
   unfold okN
   rw [hr]
   rfl
  refine cB ?_
  unfold rightB
  rw [goes_no ho (by omega),Bool.and_false]
 refine jF4 8000300050003000300050003000700051690005100000000444 55002505000000 66 (fun g31_5=>?_) fun g31_5=>?_
 ·have ho:okN b.2.2 i=false:=by
   have hr:rightN (b.2.2.getD i a00)=false:=by
    unfold rightN inB
    (simp_all;omega)
   unfold okN
   rw [hr]
   rfl
  refine cB ?_
  unfold rightB
  rw [goes_no ho (by omega),Bool.and_false]
 refine jF3 80003000500030003000500030007000516 810 (fun h31=>?_) fun h31=>?_
 ·have ho:okN b.2.2 i=false:=by
   have hr:rightN (b.2.2.getD i a00)=false:=by
    unfold rightN inB
    (simp_all;done)
   unfold okN
   rw [hr]
   rfl
  refine cB ?_
  unfold rightB
  rw [goes_no ho (by omega),Bool.and_false]
 first
  |(have hra:rightN (b.2.2.getD i a00)=true:=by
     unfold rightN inB
     (simp_all;omega))
  | skip
 refine jU 20516 ?_
 refine jlp (α:=Nat) [2,2,5,5,71,95] (fun k=>[(5,.c (.int .i64 (k:Nat)))]) (fun k=>[(p1,.blk 3 (bnF b)),(p2,.blk 4 (anF (b.2.2.getD i a00)))]) (fun k=>k≤i∧∀ j,j<k→(b.2.2.getD j a00).1<(b.2.2.getD i a00).1∧(b.2.2.getD j a00).2.1≠(b.2.2.getD i a00).2.1) (fun k=>i-k) 0 (h0:=⟨Nat.zero_le _,fun j hj=>absurd hj (Nat.not_lt_zero j)⟩) (hr:=?_)
 rintro k ⟨(hki:k≤i),hka⟩
 refine jcs ?_
 first
  |(have hra:rightN (b.2.2.getD i a00)=true:=by
     unfold rightN inB
     (simp_all;omega))
  | skip
 refine jU 52116 ?_;refine jF3 7207810 851920084004000200020006000 (fun h34=>?_) fun h34=>?_
 rotate_left
 ·refine jlend (i+1) (h1:=?_)
  ·refine ⟨by omega,?_⟩
   show (goesTo b.2.2 i && okN b.2.2 i)=true
   rw [hg,beh_all hra (fun j hj=>hka j (by omega))]
   rfl
 refine jcd (oN 0 20) ?_;refine jyq (jrfa 2 1 false) ?_;refine jU 708001000090000070000900000900007010000 ?_;refine jysp 85 (fun g35=>?_) fun g35=>?_
 ·refine jU 8000300050003000300050005000300030005000700051690008803000000600600600600600600600600600 ?_
  have ho:okN b.2.2 i=false:=beh_no (k:=k) (by omega) (by (left;simp_all;done))
  refine cB ?_
  unfold rightB
  rw [goes_no ho (by omega),Bool.and_false]
 refine jyq (jrfa 2 1 false) ?_;refine jU 100008000000700008000000900007010000 ?_;refine jyq jrcs ?_;refine jU 880300000 ?_;refine jF3 80003000500030003000500050003000300050007000516 840010 (fun h35=>?_) fun h35=>?_
 ·have ho:okN b.2.2 i=false:=beh_no (k:=k) (by omega) (by (right;simp_all;done))
  refine cB ?_
  unfold rightB
  rw [goes_no ho (by omega),Bool.and_false]
 first
  |(have hra:rightN (b.2.2.getD i a00)=true:=by
     unfold rightN inB
     (simp_all;omega))
  | skip
 refine jU 85191200 ?_
 refine jlend (k+1) (h1:=?_)
 ·refine ⟨by omega,fun j hj=>?_⟩
  by_cases e:j=k
  ·subst e
   (simp_all;done)
  ·exact hka j (by omega)
end
section
def mB (at_:Nat):Nat:=if at_=0 then 2147483727 else 2147483647
def glueN (l:List Nat) (p:List Nat×Nat):List Nat×Nat:=if p.2≠0 then ([],p.2) else (l++p.1,0)
def ofN (l:List Nat):List Int:=l.map Int.ofNat
structure AtN (b:List UInt8) (a:Nat) (nums:List Nat):Prop where
 le:a≤b.length
 n0:nums.length≤a
 ne:a≠0→nums≠[]
 bd:∀ n ∈ nums,n≤2147483727
 eq:numsM 2147483727 b=glueN nums (numsM (mB a) (b.drop a))
end
section
open Go.RowKit Cal
theorem nextR_k {t:Int} {l:List (List UInt8)} {k:Nat} (h:k≤28):(nextR t l k).k≤28:=by
 grind [nextM_bd,nextR]
theorem getM_e (b:List UInt8):(getM b).2≤28:=by
 grind [getM]
theorem range_e (b:List UInt8) (x y:Int):(rangeM b x y).2≤28:=by
 grind [getM_e,rangeM]
theorem leave_k {l:List (List UInt8)} {k:Nat} (h:k≤28):leaveK l k≤28:=by
 grind [leaveK]
theorem numM_e (r:List UInt8) (m:Nat):(numM r m).2≤4:=by
 grind [numM]
theorem numsM_e:∀ (n m:Nat) (b:List UInt8),b.length≤n→(numsM m b).2≤4
 | n,m,b,h=>by
  rw [numsM]
  split
  ·exact Nat.zero_le _
  ·rename_i h0
   split
   ·exact numM_e _ _
   ·split
    ·cases n with
     | zero=>exact absurd (List.eq_nil_of_length_eq_zero (by omega)) h0
     | succ n =>
      have h1:=runLen_pos h0
      have h2:=List.length_pos_iff.2 h0
      exact numsM_e n _ _ (by rw [List.length_drop];omega)
    ·exact Nat.zero_le _
theorem getA_e (b:List UInt8):(getA b).2≤28:=by
 have:=numsM_e _ 2147483727 b (Nat.le_refl _)
 grind [getA]
theorem said_e (a:AA) (b:List UInt8):(saidM a b).2≤28:=by
 grind [asked_bd,maskM_bd,getA_e,range_e,isTrueM,octM,ogetM,getE,saidM]
theorem endK_bd {l:List (List UInt8)} {k:Nat} (h:k≤28):endK l k≤28:=by
 grind [endK]
theorem readR_k (a:AA) {l:List (List UInt8)} {k:Nat} (h:k≤28):(readR a l k).k≤28:=by
 grind [readR,enterR,nextR_k,leave_k,readV,valK,said_e]
theorem stG_k {α:Type} {sp:StepR α} (h:∀ l k,k≤28→(sp l k).1.2≤28) {l0:List (List UInt8)} {k0:Nat} (h0:k0≤28):∀ j,(stG sp l0 k0 j).1.2≤28
 | 0=>h0
 | j+1=>h _ _ (stG_k h h0 j)
theorem endG_k {α:Type} {sp:StepR α} (h:∀ l k,k≤28→(sp l k).1.2≤28) {l0:List (List UInt8)} {k0:Nat} {most:Int} (h0:k0≤28):(endG sp l0 k0 most).2≤28:=by
 grind [stG_k,endG,leave_k]
end
section
open Go.RowKit Cal
def rightF (f:Fd) (v:V4):Bool :=
 if f.call=0 then rightS v.who else if f.call=3∨f.call=4 then decide (f.least≤v.n) && decide (v.n≤f.most) else
 if f.call=6 then decide (f.least≤(v.b.length:Nat)) && decide ((v.b.length:Nat)≤f.most) else if f.call=7 then labM v.t else
 if f.call=9 then decide (0≤v.n) && decide (v.n≤253402300799) else true
def rightFs:List Fd→List V4→Bool
 | f::fs,v::vs=>rightF f v && rightFs fs vs
 | _,_=>true
def specR (kind:Int) (vs:List V4):Bool :=
 if kind=2 then (decide ((vs.getD 5 V4.z).b.length=0) || decide (0<(vs.getD 4 V4.z).b.length)) && (decide ((vs.getD 4 V4.z).b.length=0) || decide ((vs.getD 3 V4.z).n=1))
 else if kind=3 then decide ((vs.getD 3 V4.z).n≤(vs.getD 4 V4.z).n) else true
def rightRec (kind:Int) (fs:List Fd) (vs:List V4):Bool:=rightFs fs vs && specR kind vs
def NormF (f:Fd) (v:V4):Prop:=(f.call=0∧v=⟨0,[],[],v.who⟩)∨((f.call=3∨f.call=4)∧v=⟨v.n,[],[],zeroS⟩)∨(f.call=6∧v=⟨0,[],v.b,zeroS⟩)∨(f.call=7∧v=⟨0,v.t,[],zeroS⟩)∨(f.call=9∧v=⟨v.n,[],[],zeroS⟩)
def NormFs:List Fd→List V4→Prop
 | [],[]=>True
 | f::fs,v::vs=>NormF f v∧NormFs fs vs
 | _,_=>False
def vE (kind:Int):VV:=⟨4,kind,false,[],[]⟩
def aK (kind:Int):AA:=⟨4,0,kind,kind⟩
def recX (kind:Int) (fs:List Fd) (vs:List V4):List (Int×List UInt8):=(10,putN kind)::List.zipWith fdX fs vs
def recB (kind:Int) (fs:List Fd) (vs:List V4):List UInt8:=putL 48 (putL 10 (putN kind)++encFs fs vs)
def putRec (kind:Int) (fs:List Fd) (vs:List V4):W8:=closeV (putFds fs vs (doW (vE kind) (doW (w1 48) w00)))
def rputRec (kind:Int) (fs:List Fd) (vs:List V4):R8:=rdoS w2 (rputFds fs vs (rdoS (vE kind) (rdoS (w1 48) r00)))
def KindOk (kind:Int):Prop:=0≤kind∧kind≤100
section
variable {kind:Int} {fs:List Fd} {vs:List V4}
end
def readRec (kind:Int) (fs:List Fd) (b:List UInt8):List V4×Nat :=
 let r1:=readR aL [b] (depthM b).2
 let r2:=readR (aK kind) r1.l r1.k
 let x:=readFs fs r2.l r2.k
 let r4:=readR aE x.1.1 x.1.2
 (x.2,endK r4.l r4.k)
def recM (kind:Int) (fs:List Fd) (b:List UInt8):List V4×Nat :=
 if (readRec kind fs b).2≠0 then (List.replicate fs.length V4.z,(readRec kind fs b).2) else if rightRec kind fs (readRec kind fs b).1=false then (List.replicate fs.length V4.z,4) else ((readRec kind fs b).1,0)
section
variable {kind:Int} {fs:List Fd} {vs:List V4}
end
def fsCase:List Fd:=[⟨0,0,0⟩,⟨6,1,4096⟩,⟨9,0,0⟩,⟨4,0,2⟩,⟨6,0,4096⟩,⟨6,0,4096⟩]
def fsAuth:List Fd:=[⟨3,1,1048576⟩,⟨6,16,64⟩,⟨4,1,4⟩,⟨9,0,0⟩,⟨9,0,0⟩,⟨9,0,0⟩,⟨3,0,1099511627776⟩]
def fsMark:List Fd:=[⟨3,1,1048576⟩,⟨3,1,1099511627776⟩,⟨9,0,0⟩,⟨9,0,0⟩]
def fsTick:List Fd:=[⟨7,1,24⟩,⟨6,32,32⟩,⟨9,0,0⟩]
def fsIss:List Fd:=[⟨6,1,4096⟩,⟨6,0,4096⟩]
instance (f:Fd):Decidable (OkF f):=by unfold OkF;infer_instance
def kindB (b:List UInt8):Int :=
 if (recM 2 fsCase b).2=0 then 2 else if (recM 3 fsAuth b).2=0 then 3 else if (recM 4 fsMark b).2=0 then 4 else if (recM 7 fsTick b).2=0 then 7 else if (recM 6 fsIss b).2=0 then 6 else 0
end
section
open Go.RowKit Cal

end
section
variable {gs:List Nat} [Ok9 gs]
open Go.RowKit Cal

def rqF (l:List (List UInt8)) (k:Nat):Nat→CV:=fl [lbC l,.c (.int .i64 (k:Nat))]
def rqE (n:Nat) (l:List (List UInt8)) (k:Nat):Option Nat×Res:=(some n,.blk 2 (rqF l k))
theorem rread08_ac {gs:List Nat} (b:List UInt8) (hb:b.length≤1000000):AC gs Tryz.prog 52 [] [bsC b] (fun r H'=>∃ n,r=.op 0 (some n) 0∧H'=[rqE n [b] (depthM b).2]):=by
 refine jF5 16516 15 Tryz.func52 fun al w0 F0 St0=>?_;refine jF1 165119009001 (rcheck_ac b hb) ?_;refine jF6 1 1 1 zr58 fun p1=>?_;refine jq (rd_build (n:=2) rfl zr98 pl98 rfl rfl) ?_
 refine jqe (jebx 2 fun p2=>?_)
 refine jU 51 ?_;refine code_knowG (know_op 2 rfl) fun hn=>?_
 obtain ⟨n,rfl⟩:=hn
 refine jE (freeze 0 rfl) ?_;refine jE (thawC 1 0 0 (rqF [b] (depthM b).2) (fun i _=>bsC ([b].getD i [])) rfl rfl cZ cZ (fun j hj h0=>by rcases j with _|_|j <;> first|omega|exact cZ) (by simp) (fun a c ha hc=>by obtain rfl:a=0:=(by simpa using ha);obtain rfl:c=0:=(by omega);exact cZ)) ?_;refine jU 7000 ?_
 exact end_ownV (.inl rfl) [1] (by decide) rfl (res_1 rfl (arv_tmp rfl)) (cP (j:=0)) ⟨n,rfl,rfl⟩
theorem rmore08_ac {gs:List Nat} (n:Nat) (l:List (List UInt8)) (k:Nat) (hl:0<l.length∧l.length≤1000000):AC gs Tryz.prog 54 [rqE n l k] [.op 0 (some n) 0] (fun r H'=>r=.c (.bool (moreM l k))∧H'=[rqE n l k]):=by
 refine jF5 7516 24 Tryz.func54 fun al w0 F0 St0=>?_;refine jcd (oN 0 22) ?_;refine jU 708001000080000005000070 ?_;refine jysp 8 (fun g182=>?_) fun g182=>?_
 ·refine jU 3000020000100009000005000070100009000005000070 ?_;refine jyq (jri (i:=(l.length-1)) (hz:=by omega)) ?_;refine jU 70008807030000008002000070000 ?_
  exact jnh (hv:=(cB (by unfold moreM nowL;(simp [];omega))))
 refine jU 700088070300000600600600600600600600600600600600600600600 ?_
 exact jnh (hv:=(cB (by unfold moreM nowL;(simp [];omega))))
theorem rend08_ac {gs:List Nat} (n:Nat) (l:List (List UInt8)) (k:Nat) (hl:0<l.length∧l.length≤1000000):AC gs Tryz.prog 56 [rqE n l k] [.op 0 (some n) 0] (fun r H'=>r=.c (.int .i64 (endK l k:Nat))∧H'=[rqE n l k]):=by
 refine jF5 525010040167516 26 Tryz.func56 fun al w0 F0 St0=>?_;refine jF3 3000700051501004016 523509040167810 (fun h286=>?_) fun h286=>?_
 ·exact jnh (hv:=(cI (by unfold endK;rw [if_pos (by omega)])))
 refine jF3 30007000516 523602000000509040167810 (fun h289=>?_) fun h289=>?_
 ·exact jnh (hv:=(cI (by unfold endK;rw [if_neg (by omega),if_pos (by omega)];rfl)))
 refine jF3 30007000516 7000516810 (fun h292=>?_) fun h292=>?_
 ·exact jnh (hv:=(cI (by unfold endK;rw [if_neg (by omega),if_neg (by omega),if_pos (by omega)];rfl)))
 exact jnh (hv:=(cI (by unfold endK;rw [if_neg (by omega),if_neg (by omega),if_neg (by omega)];rfl)))
end
section
variable {gs:List Nat} [Ok9 gs]
open Go.RowKit Cal

theorem lb_take8 {l:List (List UInt8)} {m j:Nat} (h:j<(l.take m).length):bsC (l.getD (0+j / 1) [])=lbF (l.take m) j:=by
 rw [Nat.zero_add,Nat.div_one]
 rw [List.length_take] at h
 simp [lbF,List.getD_eq_getElem?_getD,show j<m by omega]
theorem lset {l:List (List UInt8)} (h:0<l.length) (x:List UInt8):l.set (l.length-1) x=l.take (l.length-1)++[x]:=by
 apply List.ext_getElem?
 intro i
 rw [List.getElem?_set,List.getElem?_append,List.length_take]
 by_cases h1:l.length-1=i
 ·subst h1
  rw [if_pos rfl,if_pos (by omega),if_neg (by omega)]
  simp
 ·rw [if_neg h1]
  by_cases h2:i<l.length-1
  ·rw [if_pos (by omega),List.getElem?_take,if_pos h2]
  ·rw [if_neg (by omega),List.getElem?_eq_none (by omega),List.getElem?_eq_none (by simp;omega)]
def nxK8 (tag:Int) (l:List (List UInt8)):Nat:=if (nextM (nowL l)).e=0∧tag≠0∧((nextM (nowL l)).tag:Int)≠tag then 5 else (nextM (nowL l)).e
theorem nx8_bad {tag:Int} {l:List (List UInt8)} (h:nxK8 tag l≠0):nextR tag l 0=⟨l,nxK8 tag l,0,[],[],false⟩:=by
 unfold nxK8 at h ⊢
 unfold nextR
 by_cases hc:(nextM (nowL l)).e=0∧tag≠0∧((nextM (nowL l)).tag:Int)≠tag
 ·rw [if_pos hc,if_neg (by omega),if_neg (by omega),if_pos (by omega)]
 ·rw [if_neg hc] at h ⊢
  rw [if_neg (by omega),if_pos (by omega)]
theorem nx8_good {tag:Int} {l:List (List UInt8)} (h:nxK8 tag l=0):(nextM (nowL l)).e=0∧(tag=0∨((nextM (nowL l)).tag:Int)=tag):=by
 unfold nxK8 at h
 by_cases hc:(nextM (nowL l)).e=0∧tag≠0∧((nextM (nowL l)).tag:Int)≠tag
 ·rw [if_pos hc] at h;cases h
 ·rw [if_neg hc] at h;omega
theorem rnext08_ac {gs:List Nat} (n:Nat) (l:List (List UInt8)) (k:Nat) (tag:Int) (hl:0<l.length∧l.length≤1000000) (hb:(nowL l).length≤1000000):AC gs Tryz.prog 94 [rqE n l k] [.op 0 (some n) 0,.c (.int .i64 tag)]
  (fun r H'=>r=.tup 3 (fl [bsC (nextR tag l k).body,bsC (nextR tag l k).raw,.c (.bool (nextR tag l k).is)])∧H'=[rqE n (nextR tag l k).l (nextR tag l k).k]):=by
 have hnb:=nextM_bd (nowL l)
 refine jF5 52501004016751116 81 Tryz.func94 fun al w0 F0 St0=>?_;refine jF3 3000700051116 7810 (fun h165=>?_) fun h165=>?_
 ·have hN:nextR tag l k=⟨l,k,0,[],[],false⟩:=by unfold nextR;rw [if_pos (by omega)]
  rw [hN]
  exact end_H (.inl rfl) rfl (res_3 rfl javt javt javt) (CEnt.tup3 cN cN cZ)
 refine jcd (oN 0 13) ?_;refine jU 3000020000100009000005000070100009000005000070 ?_;refine jyq (jri (i:=(l.length-1)) (hz:=by omega)) ?_;refine jU 8807070000 ?_
 obtain rfl:k=0:=by omega
 refine jE (weaken 7 (bsC (nowL l)) cZ) ?_;refine jU 16 ?_;refine jF1 511119009009009001 (rnext_ac (nowL l) (by omega)) ?_;refine jjn (α:=Unit) [11,11,36,46] (fun _=>[(11,.c (.int .i64 ((nxK8 tag l:Nat):Int)))]) (fun _=>[rqE n l 0]) (fun _=>True) ?_ ?_
 ·refine jU 1216 ?_;refine jF4 110000000021 8103005500444150044 38 (fun g170=>?_) fun g170=>?_
  rotate_left
  ·exact jjend () (h5:=by exact .cons (cI (by unfold nxK8;(rw [if_neg (by omega)]))) .nil)
  refine jF4 5100000000211 8103005500444 42 (fun g170_2=>?_) fun g170_2=>?_
  rotate_left
  ·exact jjend () (h5:=by exact .cons (cI (by unfold nxK8;(rw [if_neg (by omega)]))) .nil)
  refine jF3 851200 810 (fun h170=>?_) fun h170=>?_
  rotate_left
  ·exact jjend () (h5:=by exact .cons (cI (by unfold nxK8;(rw [if_neg (by omega)]))) .nil)
  exact jjend () (h5:=by exact .cons (cI (by unfold nxK8;(rw [if_pos ⟨by omega,by omega,by omega⟩];rfl))) .nil)
 rintro u _
 refine jU 52167 ?_;refine jF3 0 7810 (fun h173=>?_) fun h173=>?_
 ·have hN:=nx8_bad (tag:=tag) (l:=l) (by omega)
  refine jU 10040116 ?_
  refine jqm (jmstF 1 (rqF l (nextR tag l 0).k) ?_ ?_)
  ·exact (fun j hj=>by rcases j with _|_|j <;> first|exact cZ|exact cI (by rw [hN]))
  refine jU 30007000511165 ?_
  rw [hN]
  exact end_H (.inl rfl) rfl (res_3 rfl javt javt javt) (CEnt.tup3 cN cN cZ)
 obtain ⟨he0,hne⟩:=nx8_good (tag:=tag) (l:=l) (by omega)
 have hc:=nextM_cut (b:=nowL l) (by omega)
 have hN:nextR tag l 0=⟨l.set (l.length-1) (nextM (nowL l)).rest,0,(nextM (nowL l)).tag,(nextM (nowL l)).body,(nowL l).take ((nowL l).length-(nextM (nowL l)).rest.length),true⟩:=by unfold nextR;rw [if_neg (by omega),if_neg (by omega),if_neg (by omega)]
 have hN:nextR tag l 0=⟨[]++l.take (l.length-1)++[(nextM (nowL l)).rest],0,(nextM (nowL l)).tag,(nextM (nowL l)).body,(nowL l).take ((nowL l).length-(nextM (nowL l)).rest.length),true⟩:=by rw [hN,lset hl.1];rfl
 refine jcdZ (oT [0,4,6,8,10,12,14,16,18,20,22,24,28,30,32] (.two 1 (.two 13 (oT [35,37,38,40,43] .done) 17 (oT [27,37,38,40,43] .done)) 17 (oT [3,27,37,38,40,43] .done))) ?_;refine jU 5000000010000000900000040000050000000100000009000000400000400000 ?_;refine jzq jrl ?_;refine jzq jra ?_;refine jzq (jrsr (hl:=(bd_none _ _)) (hu:=(bd_some rfl (show _=(((l.length-1):Nat):Int) by omega)))) ?_;refine jU 400000400000 ?_;refine jzq (jrsf (hz1:=(show _=(((toM (nowL l)):Nat):Int) by omega))) ?_;refine jztwo ?_ ?_
 ·refine jze (jebl 0 1 zr58 fun p1=>?_)
  refine jztwo ?_ ?_
  ·refine jzm (m_appendC rowC_lb (l:=[]) (l2:=l.take (l.length-1)) rfl rfl rfl rfl (Nat.le_of_eq (Nat.zero_mul _)) (fun j hj=>absurd hj (by simp)) (src_rs rfl) (by rw [List.length_take];omega) (fun j hj=>CEnt.of_eq (lb_take8 (by omega))) Tryz.underlying96 nu96 sz58 zr58 by58 rfl (by simp;omega) (by simp;omega) (fun j hj=>rfl) rfl rfl (Nat.mul_one _) (fun p2=>?_))
   refine z_ent (weaken 69 (bsC (nextM (nowL l)).rest) (CEnt.bs hc.2.1.symm)) ?_
   refine jze (jebl 1 1 zr58 fun p3=>?_)
   refine jzm (jac 24 (rowC_lb) (l2:=[(nextM (nowL l)).rest]) fun p4=>?_)
   refine jU 100000009000000 ?_
   refine jzm (jmst 1 ?_)
   refine jU 78700000 ?_
   first
    |(refine jE (freeze 1 rfl) ?_;refine jE (thawC 0 0 1 (rqF ([]++l.take (l.length-1)++[(nextM (nowL l)).rest]) 0) (fun i _=>bsC (([]++l.take (l.length-1)++[(nextM (nowL l)).rest]).getD i [])) rfl rfl cZ cZ (fun j hj h0=>by rcases j with _|_|j <;> first|omega|exact cZ) (by simp) (fun a c ha hc=>by obtain rfl:c=0:=(by omega);rw [Nat.zero_add,Nat.mul_one,Nat.add_zero];exact cZ)) ?_;refine jnm ?_)
    |(refine jE (freeze 2 rfl) ?_;refine jE (thawC 0 0 2 (rqF ([]++l.take (l.length-1)++[(nextM (nowL l)).rest]) 0) (fun i _=>bsC (([]++l.take (l.length-1)++[(nextM (nowL l)).rest]).getD i [])) rfl rfl cZ cZ (fun j hj h0=>by rcases j with _|_|j <;> first|omega|exact cZ) (by simp) (fun a c ha hc=>by obtain rfl:c=0:=(by omega);rw [Nat.zero_add,Nat.mul_one,Nat.add_zero];exact cZ)) ?_;refine jnm ?_)
   refine jcd (oN 0 10) ?_;refine jU 707070 ?_;refine jyq (jrsb (hz1:=(show _=(((fromM (nowL l)):Nat):Int) by omega)) (hz2:=(show _=(((toM (nowL l)):Nat):Int) by omega))) ?_;refine jU 7070 ?_;refine jyq (jrst (hz2:=(show _=(((toM (nowL l)):Nat):Int) by omega))) ?_;refine jU 7000880707070 ?_
   rw [hN]
   refine end_H (.inl rfl) rfl (res_3 rfl javt javt javt) (CEnt.tup3 (CEnt.bs ?_) (CEnt.bs ?_) cZ)
   ·exact hc.1.symm
   ·rw [take_toM (by omega)]
  ·refine z_ent (weaken 69 (bsC (nextM (nowL l)).rest) (CEnt.bs hc.2.1.symm)) ?_
   refine jze (jebl 1 1 zr58 fun p2=>?_)
   refine jzm (m_appendC rowC_lb (l:=[]) (l2:=l.take (l.length-1)) rfl rfl rfl rfl (Nat.le_of_eq (Nat.zero_mul _)) (fun j hj=>absurd hj (by simp)) (src_rs rfl) (by rw [List.length_take];omega) (fun j hj=>CEnt.of_eq (lb_take8 (by omega))) Tryz.underlying96 nu96 sz58 zr58 by58 rfl (by simp;omega) (by simp;omega) (fun j hj=>rfl) rfl rfl (Nat.mul_one _) (fun p3=>?_))
   refine jzm (jac 24 (rowC_lb) (l2:=[(nextM (nowL l)).rest]) fun p4=>?_)
   refine jU 100000009000000 ?_
   refine jzm (jmst 1 ?_)
   refine jU 78700000 ?_
   first
    |(refine jE (freeze 1 rfl) ?_;refine jE (thawC 0 0 1 (rqF ([]++l.take (l.length-1)++[(nextM (nowL l)).rest]) 0) (fun i _=>bsC (([]++l.take (l.length-1)++[(nextM (nowL l)).rest]).getD i [])) rfl rfl cZ cZ (fun j hj h0=>by rcases j with _|_|j <;> first|omega|exact cZ) (by simp) (fun a c ha hc=>by obtain rfl:c=0:=(by omega);rw [Nat.zero_add,Nat.mul_one,Nat.add_zero];exact cZ)) ?_;refine jnm ?_)
    |(refine jE (freeze 2 rfl) ?_;refine jE (thawC 0 0 2 (rqF ([]++l.take (l.length-1)++[(nextM (nowL l)).rest]) 0) (fun i _=>bsC (([]++l.take (l.length-1)++[(nextM (nowL l)).rest]).getD i [])) rfl rfl cZ cZ (fun j hj h0=>by rcases j with _|_|j <;> first|omega|exact cZ) (by simp) (fun a c ha hc=>by obtain rfl:c=0:=(by omega);rw [Nat.zero_add,Nat.mul_one,Nat.add_zero];exact cZ)) ?_;refine jnm ?_)
   refine jcd (oN 0 10) ?_;refine jU 707070 ?_;refine jyq (jrsb (hz1:=(show _=(((fromM (nowL l)):Nat):Int) by omega)) (hz2:=(show _=(((toM (nowL l)):Nat):Int) by omega))) ?_;refine jU 7070 ?_;refine jyq (jrst (hz2:=(show _=(((toM (nowL l)):Nat):Int) by omega))) ?_;refine jU 7000880707070 ?_
   rw [hN]
   refine end_H (.inl rfl) rfl (res_3 rfl javt javt javt) (CEnt.tup3 (CEnt.bs ?_) (CEnt.bs ?_) cZ)
   ·exact hc.1.symm
   ·rw [take_toM (by omega)]
 ·refine z_ent (weaken 69 (bsC (nextM (nowL l)).rest) (CEnt.bs hc.2.1.symm)) ?_
  refine jze (jebl 1 1 zr58 fun p1=>?_)
  refine jze (jebl 0 1 zr58 fun p2=>?_)
  refine jzm (m_appendC rowC_lb (l:=[]) (l2:=l.take (l.length-1)) rfl rfl rfl rfl (Nat.le_of_eq (Nat.zero_mul _)) (fun j hj=>absurd hj (by simp)) (src_rs rfl) (by rw [List.length_take];omega) (fun j hj=>CEnt.of_eq (lb_take8 (by omega))) Tryz.underlying96 nu96 sz58 zr58 by58 rfl (by simp;omega) (by simp;omega) (fun j hj=>rfl) rfl rfl (Nat.mul_one _) (fun p3=>?_))
  refine jzm (jac 24 (rowC_lb) (l2:=[(nextM (nowL l)).rest]) fun p4=>?_)
  refine jU 100000009000000 ?_
  refine jzm (jmst 1 ?_)
  refine jU 78700000 ?_
  first
   |(refine jE (freeze 1 rfl) ?_;refine jE (thawC 0 0 1 (rqF ([]++l.take (l.length-1)++[(nextM (nowL l)).rest]) 0) (fun i _=>bsC (([]++l.take (l.length-1)++[(nextM (nowL l)).rest]).getD i [])) rfl rfl cZ cZ (fun j hj h0=>by rcases j with _|_|j <;> first|omega|exact cZ) (by simp) (fun a c ha hc=>by obtain rfl:c=0:=(by omega);rw [Nat.zero_add,Nat.mul_one,Nat.add_zero];exact cZ)) ?_;refine jnm ?_)
   |(refine jE (freeze 2 rfl) ?_;refine jE (thawC 0 0 2 (rqF ([]++l.take (l.length-1)++[(nextM (nowL l)).rest]) 0) (fun i _=>bsC (([]++l.take (l.length-1)++[(nextM (nowL l)).rest]).getD i [])) rfl rfl cZ cZ (fun j hj h0=>by rcases j with _|_|j <;> first|omega|exact cZ) (by simp) (fun a c ha hc=>by obtain rfl:c=0:=(by omega);rw [Nat.zero_add,Nat.mul_one,Nat.add_zero];exact cZ)) ?_;refine jnm ?_)
  refine jcd (oN 0 10) ?_;refine jU 707070 ?_;refine jyq (jrsb (hz1:=(show _=(((fromM (nowL l)):Nat):Int) by omega)) (hz2:=(show _=(((toM (nowL l)):Nat):Int) by omega))) ?_;refine jU 7070 ?_;refine jyq (jrst (hz2:=(show _=(((toM (nowL l)):Nat):Int) by omega))) ?_;refine jU 7000880707070 ?_
  rw [hN]
  refine end_H (.inl rfl) rfl (res_3 rfl javt javt javt) (CEnt.tup3 (CEnt.bs ?_) (CEnt.bs ?_) cZ)
  ·exact hc.1.symm
  ·rw [take_toM (by omega)]
end
section
variable {gs:List Nat} [Ok9 gs]
open Go.RowKit Cal

theorem range_ok {b:List UInt8} {x y:Int} (h:(rangeM b x y).2=0):(rangeM b x y).1=(getM b).1:=by
 unfold rangeM at h ⊢
 split
 ·rename_i h1;rw [if_pos h1] at h;exact absurd h h1
 ·split
  ·rename_i h1 h2;rw [if_neg h1,if_pos h2] at h;exact absurd h (by decide)
  ·rfl
theorem said_34 {a:AA} (h:a.kind=3∨a.kind=4) (b:List UInt8):saidM a b=(vN (rangeM b a.least a.most).1,(rangeM b a.least a.most).2):=by
 unfold saidM
 rcases h with h|h
 ·rw [if_pos h]
 ·rw [if_neg (by omega),if_pos h]
def SaidQ (a:AA) (b:List UInt8):CV→List (Option Nat×Res)→Prop:=fun r H'=>(∃ v,r=.tup 2 (fl [valC v,.c (.int .i64 ((saidM a b).2:Nat))])∧((saidM a b).2=0→v=(saidM a b).1))∧H'=[]
def GetC (gs:List Nat) (P:Program) (f:FuncId):Prop:=∀ b:List UInt8,b.length≤1000000→ACp gs P f [bsC b] (.tup 2 (fl [isC (getA b).1,.c (.int .i64 ((getA b).2:Nat))]))
end
section
variable {gs:List Nat} [Ok9 gs]
open Go.RowKit Cal

theorem nextR_err {tag:Int} {l:List (List UInt8)} {k:Nat} (h:k≠0):nextR tag l k=⟨l,k,0,[],[],false⟩:=by unfold nextR;rw [if_pos h]
theorem readR_err {a:AA} {l:List (List UInt8)} {k:Nat} (h:k≠0):readR a l k=⟨l,k,VV.none⟩:=by
 have hm:moreM l k=false:=by unfold moreM;simp [h]
 have he:enterR a.tag l k=⟨l,k,0,[],[],false⟩:=by unfold enterR;rw [hm,if_neg (by simp)];exact nextR_err h
 unfold readR
 split
 ·unfold enterL;rw [he];rfl
 ·split
  ·have:leaveK l k=k:=by unfold leaveK;rw [if_pos h]
   unfold leaveL
   rw [this,if_neg h]
  ·split
   ·rw [nextR_err h];rfl
   ·unfold readV valK
    rw [nextR_err h]
    simp
theorem tag_at {a:AA} (h1:3≤a.kind) (h2:a.kind≤9):fl [CV.c (.int .i64 2),.c (.int .i64 10),.c (.int .i64 1),.c (.int .i64 4),.c (.int .i64 12),.c (.int .i64 6),.c (.int .i64 24)] ((a.kind-3).toNat)=.c (.int .i64 (tagA a)):=by
 obtain h|h|h|h|h|h|h:a.kind=3∨a.kind=4∨a.kind=5∨a.kind=6∨a.kind=7∨a.kind=8∨a.kind=9:=by omega
 all_goals (unfold tagA;rw [h];rfl)
theorem lb_takeD {l:List (List UInt8)} {m i:Nat} (h:i<m):bsC (l.getD (0+i) [])=bsC ((l.take m).getD i []):=by
 simp [List.getD_eq_getElem?_getD,h]
theorem readR_enter {a:AA} {l:List (List UInt8)} (h:a.kind=1) (h0:¬(moreM l 0=true∧madeM a.tag=false)):readR a l 0=⟨if (nextR a.tag l 0).is=true then (nextR a.tag l 0).l++[(nextR a.tag l 0).body] else (nextR a.tag l 0).l,(nextR a.tag l 0).k,vI (nextR a.tag l 0).is⟩:=by
 have hE:enterR a.tag l 0=nextR a.tag l 0:=by unfold enterR;rw [if_neg h0]
 unfold readR enterL
 rw [if_pos h,hE]
theorem readR_bad {a:AA} {l:List (List UInt8)} (h:a.kind=1) (h0:moreM l 0=true∧madeM a.tag=false):readR a l 0=⟨l,5,vI false⟩:=by
 have hE:enterR a.tag l 0=⟨l,5,0,[],[],false⟩:=by unfold enterR;rw [if_pos h0];exact nextR_err (by decide)
 unfold readR enterL
 rw [if_pos h,hE]
 rfl
theorem readR_leave {a:AA} {l:List (List UInt8)} (h:a.kind=2) {e:Nat} (he:leaveK l 0=e):readR a l 0=⟨if e=0 then l.take (l.length-1) else l,e,VV.none⟩:=by
 unfold readR leaveL
 rw [if_neg (by omega),if_pos h,he]
theorem readR_val {a:AA} {l:List (List UInt8)} (h1:a.kind≠1) (h2:a.kind≠2) (h3:a.kind≠11):readR a l 0=readV (tagA a) (saidM a) l 0:=by
 unfold readR
 rw [if_neg h1,if_neg h2,if_neg h3]
set_option maxHeartbeats 2000000 in
theorem rdo08_ac {gs:List Nat} (n:Nat) (l:List (List UInt8)) (k:Nat) (a:AA) (hl:0<l.length∧l.length≤1000000) (hb:(nowL l).length≤1000000) (hS:a.kind≠1→a.kind≠2→a.kind≠11→∀ b:List UInt8,b.length≤1000000→AC gs Tryz.prog 95 [] [askC a,bsC b] (SaidQ a b)):AC gs Tryz.prog 53 [rqE n l k] [.op 0 (some n) 0,askC a] (fun r H'=>r=valC (readR a l k).v∧H'=[rqE n (readR a l k).l (readR a l k).k]):=by
 have hbd:=nextM_bd (nowL l)
 have hn1:(nextR a.tag l 0).l.length=l.length:=nextR_len
 have hbb:(nextR (tagA a) l 0).body.length≤1000000:=by
  unfold nextR
  repeat' split
  all_goals (simp only [List.length_nil];omega)
 refine ac_oF 160 Tryz.func53 fun al w0 F0 St0=>?_;refine jcr ?_
 refine jqe (jebx 4 fun p1=>?_)
 refine jqe (jeal (n:=5) zr92 rfl fun p2=>?_)
 refine jU 65 ?_;refine jq (rd_build (n:=5) rfl zr92 pl92 rfl rfl) ?_
 refine jqe (jeal (n:=5) zr92 rfl fun p3=>?_)
 refine jF7 5250100401675 5 ?_;refine jF3 0 7810 (fun h199=>?_) fun h199=>?_
 ·refine jcr ?_;refine jqo (jrdoA 5) ?_;refine jF7 300070005 5 ?_
  rw [readR_err (by omega)]
  exact end_H (.inl rfl) rfl (res_1 rfl (javA 5)) jag
 obtain rfl:k=0:=by omega
 refine jE (freeze 1 rfl) ?_;refine jE (thawP 3 (m:=4) rfl rfl (by decide)) ?_;refine jnm ?_;refine jU 512620560906 ?_;refine jF3 77 5126 (fun h203=>?_) fun h203=>?_
 ·refine jcd (oT [0,2,4,6,8,10,12,14,16,18,20,22,24,26,28,30,32,35,36,38] .done) ?_;refine jU 3000020000100009000005000070100009000005000070 ?_;refine jyq (jri (i:=(l.length-1)) (hz:=by omega)) ?_;refine jU 708002000070000 ?_;refine jysp 44 (fun g204=>?_) fun g204=>?_
  rotate_left
  ·refine jU 600600 ?_;refine jys1 ?_;refine jU 810300880300000600 ?_
   have hR:=readR_enter (a:=a) (l:=l) (by omega) (by simp_all [moreM,madeM,nowL])
   refine jU 6010016 ?_;refine jF2 516751119009009001 0 (rnext08_ac n l 0 a.tag hl (by omega)) ?_;refine jF3 1200 810 (fun h209=>?_) fun h209=>?_
   rotate_left
   ·first
     |(refine jE (freeze 4 rfl) ?_;refine jE (thawC 0 0 4 (rqF ([]++(nextR a.tag l 0).l++[(nextR a.tag l 0).body]) (nextR a.tag l 0).k) (fun i _=>bsC (([]++(nextR a.tag l 0).l++[(nextR a.tag l 0).body]).getD i [])) rfl rfl cZ cZ (fun j hj h0=>by rcases j with _|_|j <;> first|omega|exact cZ) (by simp) (fun a c ha hc=>by obtain rfl:c=0:=(by omega);rw [Nat.zero_add,Nat.mul_one,Nat.add_zero];exact cZ)) ?_;refine jnm ?_;have hL:(if (nextR a.tag l 0).is=true then (nextR a.tag l 0).l++[(nextR a.tag l 0).body] else (nextR a.tag l 0).l)=[]++(nextR a.tag l 0).l++[(nextR a.tag l 0).body]:=by rw [if_pos (by simpa using h209)];rfl)
     |(have hL:(if (nextR a.tag l 0).is=true then (nextR a.tag l 0).l++[(nextR a.tag l 0).body] else (nextR a.tag l 0).l)=(nextR a.tag l 0).l:=by rw [if_neg (by simpa using h209)])
    refine jU 16 ?_;refine jq (rd_build (n:=5) rfl zr92 pl92 rfl rfl) ?_;refine jF7 3000500070005 5 ?_
    rw [hR,hL]
    exact end_H (.inl rfl) rfl (res_1 rfl (javA 5)) jag
   refine jF6 5090401 0 1 zr58 fun p5=>?_
   refine jqm (jac 24 ( rowC_lb) (l:=[]) fun p6=>?_)
   refine jU 1 ?_
   refine jqe (jebl 1 1 zr58 fun p7=>?_)
   refine jqm (jac 24 (rowC_lb) (l2:=[(nextR a.tag l 0).body]) fun p8=>?_)
   refine jU 9040 ?_;refine jF7 85 1 ?_
   first
    |(refine jE (freeze 4 rfl) ?_;refine jE (thawC 0 0 4 (rqF ([]++(nextR a.tag l 0).l++[(nextR a.tag l 0).body]) (nextR a.tag l 0).k) (fun i _=>bsC (([]++(nextR a.tag l 0).l++[(nextR a.tag l 0).body]).getD i [])) rfl rfl cZ cZ (fun j hj h0=>by rcases j with _|_|j <;> first|omega|exact cZ) (by simp) (fun a c ha hc=>by obtain rfl:c=0:=(by omega);rw [Nat.zero_add,Nat.mul_one,Nat.add_zero];exact cZ)) ?_;refine jnm ?_;have hL:(if (nextR a.tag l 0).is=true then (nextR a.tag l 0).l++[(nextR a.tag l 0).body] else (nextR a.tag l 0).l)=[]++(nextR a.tag l 0).l++[(nextR a.tag l 0).body]:=by rw [if_pos (by simpa using h209)];rfl)
    |(have hL:(if (nextR a.tag l 0).is=true then (nextR a.tag l 0).l++[(nextR a.tag l 0).body] else (nextR a.tag l 0).l)=(nextR a.tag l 0).l:=by rw [if_neg (by simpa using h209)])
   refine jU 16 ?_;refine jq (rd_build (n:=5) rfl zr92 pl92 rfl rfl) ?_;refine jF7 3000500070005 5 ?_
   rw [hR,hL]
   exact end_H (.inl rfl) rfl (res_1 rfl (javA 5)) jag
  refine jU 700008000000 ?_
  refine jye (jecP (rmade_ac a.tag) ?_)
  refine jU 8803000000100000 ?_;refine jF3 1004016 810 (fun h204=>?_) fun h204=>?_
  ·refine jqm (jmstF 1 (rqF l 5) ?_ ?_)
   ·exact jal
   refine jU 65 ?_;refine jqo (jrdoA 5) ?_;refine jF7 30005000300070005 5 ?_
   rw [readR_bad (by omega) (by simp_all [moreM,madeM,nowL])]
   exact end_H (.inl rfl) rfl (res_1 rfl (javA 5)) jag
  have hR:=readR_enter (a:=a) (l:=l) (by omega) (by simp_all [moreM,madeM,nowL])
  refine jU 6010016 ?_;refine jF2 516751119009009001 0 (rnext08_ac n l 0 a.tag hl (by omega)) ?_;refine jF3 1200 810 (fun h209=>?_) fun h209=>?_
  rotate_left
  ·first
    |(refine jE (freeze 4 rfl) ?_;refine jE (thawC 0 0 4 (rqF ([]++(nextR a.tag l 0).l++[(nextR a.tag l 0).body]) (nextR a.tag l 0).k) (fun i _=>bsC (([]++(nextR a.tag l 0).l++[(nextR a.tag l 0).body]).getD i [])) rfl rfl cZ cZ (fun j hj h0=>by rcases j with _|_|j <;> first|omega|exact cZ) (by simp) (fun a c ha hc=>by obtain rfl:c=0:=(by omega);rw [Nat.zero_add,Nat.mul_one,Nat.add_zero];exact cZ)) ?_;refine jnm ?_;have hL:(if (nextR a.tag l 0).is=true then (nextR a.tag l 0).l++[(nextR a.tag l 0).body] else (nextR a.tag l 0).l)=[]++(nextR a.tag l 0).l++[(nextR a.tag l 0).body]:=by rw [if_pos (by simpa using h209)];rfl)
    |(have hL:(if (nextR a.tag l 0).is=true then (nextR a.tag l 0).l++[(nextR a.tag l 0).body] else (nextR a.tag l 0).l)=(nextR a.tag l 0).l:=by rw [if_neg (by simpa using h209)])
   refine jU 16 ?_;refine jq (rd_build (n:=5) rfl zr92 pl92 rfl rfl) ?_;refine jF7 3000500070005 5 ?_
   rw [hR,hL]
   exact end_H (.inl rfl) rfl (res_1 rfl (javA 5)) jag
  refine jF6 5090401 0 1 zr58 fun p5=>?_
  refine jqm (jac 24 ( rowC_lb) (l:=[]) fun p6=>?_)
  refine jU 1 ?_
  refine jqe (jebl 1 1 zr58 fun p7=>?_)
  refine jqm (jac 24 (rowC_lb) (l2:=[(nextR a.tag l 0).body]) fun p8=>?_)
  refine jU 9040 ?_;refine jF7 85 1 ?_
  first
   |(refine jE (freeze 4 rfl) ?_;refine jE (thawC 0 0 4 (rqF ([]++(nextR a.tag l 0).l++[(nextR a.tag l 0).body]) (nextR a.tag l 0).k) (fun i _=>bsC (([]++(nextR a.tag l 0).l++[(nextR a.tag l 0).body]).getD i [])) rfl rfl cZ cZ (fun j hj h0=>by rcases j with _|_|j <;> first|omega|exact cZ) (by simp) (fun a c ha hc=>by obtain rfl:c=0:=(by omega);rw [Nat.zero_add,Nat.mul_one,Nat.add_zero];exact cZ)) ?_;refine jnm ?_;have hL:(if (nextR a.tag l 0).is=true then (nextR a.tag l 0).l++[(nextR a.tag l 0).body] else (nextR a.tag l 0).l)=[]++(nextR a.tag l 0).l++[(nextR a.tag l 0).body]:=by rw [if_pos (by simpa using h209)];rfl)
   |(have hL:(if (nextR a.tag l 0).is=true then (nextR a.tag l 0).l++[(nextR a.tag l 0).body] else (nextR a.tag l 0).l)=(nextR a.tag l 0).l:=by rw [if_neg (by simpa using h209)])
  refine jU 16 ?_;refine jq (rd_build (n:=5) rfl zr92 pl92 rfl rfl) ?_;refine jF7 3000500070005 5 ?_
  rw [hR,hL]
  exact end_H (.inl rfl) rfl (res_1 rfl (javA 5)) jag
 refine jF3 52167519350904016 5126 (fun h213=>?_) fun h213=>?_
 ·refine jF3 100401200 150904016 (fun h215=>?_) fun h215=>?_
  ·refine jqm (jmstF 1 (rqF l 24) ?_ ?_)
   ·exact jal
   refine jU 685 ?_;refine jqo (jrdoA 5) ?_;refine jF7 3000500070005 5 ?_
   first
    | rw [readR_leave (e:=24) (by omega) (by unfold leaveK;rw [if_neg (by decide),if_pos (by omega)]),if_neg (by decide)]
    | rw [readR_leave (e:=4) (by omega) (by unfold leaveK nowL;rw [if_neg (by decide),if_neg (by omega),if_pos (by omega)]),if_neg (by decide)]
    | rw [readR_leave (e:=0) (by omega) (by unfold leaveK nowL;rw [if_neg (by decide),if_neg (by omega),if_neg (by omega)]),if_pos rfl]
   exact end_H (.inl rfl) rfl (res_1 rfl (javA 5)) jag
  refine jq (jri (i:=(l.length-1)) (hz:=by omega)) ?_;refine jU 52360 ?_;refine jF3 100401200 150904011200 (fun h217=>?_) fun h217=>?_
  ·refine jqm (jmstF 1 (rqF l 4) ?_ ?_)
   ·exact jal
   refine jU 685 ?_;refine jqo (jrdoA 5) ?_;refine jF7 3000500070005 5 ?_
   first
    | rw [readR_leave (e:=24) (by omega) (by unfold leaveK;rw [if_neg (by decide),if_pos (by omega)]),if_neg (by decide)]
    | rw [readR_leave (e:=4) (by omega) (by unfold leaveK nowL;rw [if_neg (by decide),if_neg (by omega),if_pos (by omega)]),if_neg (by decide)]
    | rw [readR_leave (e:=0) (by omega) (by unfold leaveK nowL;rw [if_neg (by decide),if_neg (by omega),if_neg (by omega)]),if_pos rfl]
   exact end_H (.inl rfl) rfl (res_1 rfl (javA 5)) jag
  refine jq (jrsr (hl:=(bd_none _ _)) (hu:=(bd_some rfl (show _=(((l.length-1):Nat):Int) by omega)))) ?_;refine jU 9040 ?_
  refine jqm (jmstF 1 (rqF (l.take (l.length-1)) 0) ?_ ?_)
  ·exact (fun j hj=>by rcases j with _|_|j <;> first|exact CEnt.rs (by rw [List.length_take];omega) (fun i q hi hq=>CEnt.of_eq (lb_takeD hi))|exact cZ)
  refine jU 685 ?_;refine jqo (jrdoA 5) ?_;refine jF7 3000500070005 5 ?_
  first
   | rw [readR_leave (e:=24) (by omega) (by unfold leaveK;rw [if_neg (by decide),if_pos (by omega)]),if_neg (by decide)]
   | rw [readR_leave (e:=4) (by omega) (by unfold leaveK nowL;rw [if_neg (by decide),if_neg (by omega),if_pos (by omega)]),if_neg (by decide)]
   | rw [readR_leave (e:=0) (by omega) (by unfold leaveK nowL;rw [if_neg (by decide),if_neg (by omega),if_neg (by omega)]),if_pos rfl]
  exact end_H (.inl rfl) rfl (res_1 rfl (javA 5)) jag
 refine jF3 16 12609067516840010 (fun h223=>?_) fun h223=>?_
 ·refine jF2 1651119009009001 0 (rnext08_ac n l 0 0 hl (by omega)) ?_;refine jq (rd_build (n:=5) rfl zr92 pl92 rfl rfl) ?_;refine jF7 3000500070005 5 ?_
  rw [show readR a l 0=⟨(nextR 0 l 0).l,(nextR 0 l 0).k,vB (nextR 0 l 0).raw⟩ by unfold readR;rw [if_neg (by omega),if_neg (by omega),if_pos (by omega)]]
  exact end_H (.inl rfl) rfl (res_1 rfl (javA 5)) jag
 refine jF4 510000000026090 8103005500444 125 (fun g228=>?_) fun g228=>?_
 rotate_left
 ·first
   | refine jE (weaken 13 (.c (.int .i64 (tagA a))) cZ) ?_
   | refine jE (weaken 13 (.c (.int .i64 (tagA a))) (cI (by unfold tagA;rw [if_neg (by omega),if_neg (by omega),if_neg (by omega),if_neg (by omega),if_neg (by omega),if_neg (by omega),if_neg (by omega)]))) ?_
  refine jU 116 ?_;refine jF2 53016751119009009001 0 (rnext08_ac n l 0 (tagA a) hl (by omega)) ?_;refine jF3 0 810 (fun h232=>?_) fun h232=>?_
  ·refine jcr ?_;refine jqo (jrdoA 5) ?_;refine jF7 300070005 5 ?_
   rw [readR_val (by omega) (by omega) (by omega),show readV (tagA a) (saidM a) l 0=⟨(nextR (tagA a) l 0).l,(nextR (tagA a) l 0).k,VV.none⟩ by unfold readV valK;rw [if_neg (by simp_all),if_neg (by simp_all)]]
   exact end_H (.inl rfl) rfl (res_1 rfl (javA 5)) jag
  have his:=nextR_is (tag:=tagA a) (l:=l) (k:=0) (by simpa using h232)
  have hit:(nextR (tagA a) l 0).is=true:=by simpa using h232
  refine jcr ?_;refine jq (jrdrA 4) ?_;refine jU 1 ?_
  refine jqe (jecS (hS (by omega) (by omega) (by omega) (nextR (tagA a) l 0).body hbb) ?_)
  rintro _ _ ⟨⟨v,rfl,hv⟩,rfl⟩
  refine jU 9009001 ?_
  refine jqe (jeal (n:=5) zr92 rfl fun p5=>?_)
  refine jF7 5216751 5 ?_;refine jF3 10040116 6810 (fun h236=>?_) fun h236=>?_
  rotate_left
  ·refine jqo (jrdoA 5) ?_;refine jF7 70005 5 ?_
   have he0:(saidM a (nextR (tagA a) l 0).body).2=0:=by omega
   rw [readR_val (by omega) (by omega) (by omega),show readV (tagA a) (saidM a) l 0=⟨(nextR (tagA a) l 0).l,(nextR (tagA a) l 0).k,v⟩ by unfold readV valK;rw [if_pos hit,if_pos ⟨hit,he0⟩,hv he0];show R8R.mk _ (saidM a (nextR (tagA a) l 0).body).2 _=_;rw [he0,his.1]]
   exact end_H (.inl rfl) rfl (res_1 rfl (javA 5)) jag
  refine jqm (jmstF 1 (rqF (nextR (tagA a) l 0).l (saidM a (nextR (tagA a) l 0).body).2) ?_ ?_)
  ·exact jal
  refine jU 65 ?_;refine jqo (jrdoA 5) ?_;refine jF7 300070005 5 ?_
  rw [readR_val (by omega) (by omega) (by omega),show readV (tagA a) (saidM a) l 0=⟨(nextR (tagA a) l 0).l,(saidM a (nextR (tagA a) l 0).body).2,VV.none⟩ by unfold readV valK;rw [if_pos hit,if_neg (by intro h;omega)]]
  exact end_H (.inl rfl) rfl (res_1 rfl (javA 5)) jag
 refine jF3 0 810 (fun h228=>?_) fun h228=>?_
 rotate_left
 ·first
   | refine jE (weaken 13 (.c (.int .i64 (tagA a))) cZ) ?_
   | refine jE (weaken 13 (.c (.int .i64 (tagA a))) (cI (by unfold tagA;rw [if_neg (by omega),if_neg (by omega),if_neg (by omega),if_neg (by omega),if_neg (by omega),if_neg (by omega),if_neg (by omega)]))) ?_
  refine jU 116 ?_;refine jF2 53016751119009009001 0 (rnext08_ac n l 0 (tagA a) hl (by omega)) ?_;refine jF3 0 810 (fun h232=>?_) fun h232=>?_
  ·refine jcr ?_;refine jqo (jrdoA 5) ?_;refine jF7 300070005 5 ?_
   rw [readR_val (by omega) (by omega) (by omega),show readV (tagA a) (saidM a) l 0=⟨(nextR (tagA a) l 0).l,(nextR (tagA a) l 0).k,VV.none⟩ by unfold readV valK;rw [if_neg (by simp_all),if_neg (by simp_all)]]
   exact end_H (.inl rfl) rfl (res_1 rfl (javA 5)) jag
  have his:=nextR_is (tag:=tagA a) (l:=l) (k:=0) (by simpa using h232)
  have hit:(nextR (tagA a) l 0).is=true:=by simpa using h232
  refine jcr ?_;refine jq (jrdrA 4) ?_;refine jU 1 ?_
  refine jqe (jecS (hS (by omega) (by omega) (by omega) (nextR (tagA a) l 0).body hbb) ?_)
  rintro _ _ ⟨⟨v,rfl,hv⟩,rfl⟩
  refine jU 9009001 ?_
  refine jqe (jeal (n:=5) zr92 rfl fun p5=>?_)
  refine jF7 5216751 5 ?_;refine jF3 10040116 6810 (fun h236=>?_) fun h236=>?_
  rotate_left
  ·refine jqo (jrdoA 5) ?_;refine jF7 70005 5 ?_
   have he0:(saidM a (nextR (tagA a) l 0).body).2=0:=by omega
   rw [readR_val (by omega) (by omega) (by omega),show readV (tagA a) (saidM a) l 0=⟨(nextR (tagA a) l 0).l,(nextR (tagA a) l 0).k,v⟩ by unfold readV valK;rw [if_pos hit,if_pos ⟨hit,he0⟩,hv he0];show R8R.mk _ (saidM a (nextR (tagA a) l 0).body).2 _=_;rw [he0,his.1]]
   exact end_H (.inl rfl) rfl (res_1 rfl (javA 5)) jag
  refine jqm (jmstF 1 (rqF (nextR (tagA a) l 0).l (saidM a (nextR (tagA a) l 0).body).2) ?_ ?_)
  ·exact jal
  refine jU 65 ?_;refine jqo (jrdoA 5) ?_;refine jF7 300070005 5 ?_
  rw [readR_val (by omega) (by omega) (by omega),show readV (tagA a) (saidM a) l 0=⟨(nextR (tagA a) l 0).l,(saidM a (nextR (tagA a) l 0).body).2,VV.none⟩ by unfold readV valK;rw [if_pos hit,if_neg (by intro h;omega)]]
  exact end_H (.inl rfl) rfl (res_1 rfl (javA 5)) jag
 refine jcg ?_;refine jF6 96090 7 1 zr3 fun p4=>?_;refine jq (jri (i:=(a.kind-3).toNat) (hz:=by omega)) ?_;refine jqo (jrdo (hv:=tag_at (by omega) (by omega))) ?_;refine jU 851 ?_
 first
  | refine jE (weaken 13 (.c (.int .i64 (tagA a))) cZ) ?_
  | refine jE (weaken 13 (.c (.int .i64 (tagA a))) (cI (by unfold tagA;rw [if_neg (by omega),if_neg (by omega),if_neg (by omega),if_neg (by omega),if_neg (by omega),if_neg (by omega),if_neg (by omega)]))) ?_
 refine jU 116 ?_;refine jF2 53016751119009009001 0 (rnext08_ac n l 0 (tagA a) hl (by omega)) ?_;refine jF3 0 810 (fun h232=>?_) fun h232=>?_
 ·refine jcr ?_;refine jqo (jrdoA 5) ?_;refine jF7 300070005 5 ?_
  rw [readR_val (by omega) (by omega) (by omega),show readV (tagA a) (saidM a) l 0=⟨(nextR (tagA a) l 0).l,(nextR (tagA a) l 0).k,VV.none⟩ by unfold readV valK;rw [if_neg (by simp_all),if_neg (by simp_all)]]
  exact end_H (.inl rfl) rfl (res_1 rfl (javA 5)) jag
 have his:=nextR_is (tag:=tagA a) (l:=l) (k:=0) (by simpa using h232)
 have hit:(nextR (tagA a) l 0).is=true:=by simpa using h232
 refine jcr ?_;refine jq (jrdrA 4) ?_;refine jU 1 ?_
 refine jqe (jecS (hS (by omega) (by omega) (by omega) (nextR (tagA a) l 0).body hbb) ?_)
 rintro _ _ ⟨⟨v,rfl,hv⟩,rfl⟩
 refine jU 9009001 ?_
 refine jqe (jeal (n:=5) zr92 rfl fun p6=>?_)
 refine jF7 5216751 5 ?_;refine jF3 10040116 6810 (fun h236=>?_) fun h236=>?_
 rotate_left
 ·refine jqo (jrdoA 5) ?_;refine jF7 70005 5 ?_
  have he0:(saidM a (nextR (tagA a) l 0).body).2=0:=by omega
  rw [readR_val (by omega) (by omega) (by omega),show readV (tagA a) (saidM a) l 0=⟨(nextR (tagA a) l 0).l,(nextR (tagA a) l 0).k,v⟩ by unfold readV valK;rw [if_pos hit,if_pos ⟨hit,he0⟩,hv he0];show R8R.mk _ (saidM a (nextR (tagA a) l 0).body).2 _=_;rw [he0,his.1]]
  exact end_H (.inl rfl) rfl (res_1 rfl (javA 5)) jag
 refine jqm (jmstF 1 (rqF (nextR (tagA a) l 0).l (saidM a (nextR (tagA a) l 0).body).2) ?_ ?_)
 ·exact jal
 refine jU 65 ?_;refine jqo (jrdoA 5) ?_;refine jF7 300070005 5 ?_
 rw [readR_val (by omega) (by omega) (by omega),show readV (tagA a) (saidM a) l 0=⟨(nextR (tagA a) l 0).l,(saidM a (nextR (tagA a) l 0).body).2,VV.none⟩ by unfold readV valK;rw [if_pos hit,if_neg (by intro h;omega)]]
 exact end_H (.inl rfl) rfl (res_1 rfl (javA 5)) jag
def QD (gs:List Nat) (f:FuncId) (l:List (List UInt8)) (k:Nat) (args:List CV) (r:CV) (l':List (List UInt8)) (k':Nat):Prop:=∀ n,AC gs Tryz.prog f [rqE n l k] (.op 0 (some n) 0::args) (fun x H'=>x=r∧H'=[rqE n l' k'])
end
section
variable {gs:List Nat}

def preS (N k:Nat):List UInt8:=if k=0 then sepL N else sepHi (N / 128 ^ k)
def sepD (q i:Nat):UInt8:=if i=0 then UInt8.ofNat (q % 128) else UInt8.ofNat (q % 128+128)
end
section
open Go.RowKit Cal

end
section
variable {gs:List Nat} [OkG gs] [OkT gs]
open Go.RowKit Cal

theorem part_k {l:List (List UInt8)} {k:Nat} (h:k≤28):(partSp l k).1.2≤28:=readR_k aE (readR_k aT (readR_k aO (readR_k aL h)))
theorem endP_k {l:List (List UInt8)} {k:Nat} (h:k≤28):(endP l k).2≤28:=endG_k (fun _ _ h=>part_k h) (readR_k aL h)
theorem getS_k {l:List (List UInt8)} {k:Nat} (h:k≤28):(getS l k).1.2≤28:=by
 have h1:=endP_k (l:=l) h
 have h2:=ofP_bd (listP l k)
 unfold getS
 split
 ·exact h1
 ·dsimp only;omega
theorem end_long {α:Type} {sp:StepR α} {l0:List (List UInt8)} {k0:Nat} {most:Int} (ok:StepOk sp) (hl:0<l0.length) {j:Nat} (h1:∀ i,i<j→goB sp l0 k0 most i=true) (hm:moreM (stG sp l0 k0 j).1.1 (stG sp l0 k0 j).1.2=true) (hj:most≤j):jG sp l0 k0 most=j∧endG sp l0 k0 most=((readR aE (stG sp l0 k0 j).1.1 3).l,(readR aE (stG sp l0 k0 j).1.1 3).k):=by
 have hs:jG sp l0 k0 most=j:=jG_one ok hl h1 (by unfold goB;rw [hm,Bool.true_and,decide_eq_false_iff_not];omega)
 refine ⟨hs,?_⟩
 obtain ⟨f1,f2⟩:=read_leave aE rfl (stG sp l0 k0 j).1.1 3
 unfold endG
 rw [hs]
 dsimp only
 rw [if_pos hm,f1,f2]
theorem end_all {α:Type} {sp:StepR α} {l0:List (List UInt8)} {k0:Nat} {most:Int} (ok:StepOk sp) (hl:0<l0.length) {j:Nat} (h1:∀ i,i<j→goB sp l0 k0 most i=true) (hm:moreM (stG sp l0 k0 j).1.1 (stG sp l0 k0 j).1.2=false):jG sp l0 k0 most=j∧endG sp l0 k0 most=((readR aE (stG sp l0 k0 j).1.1 (stG sp l0 k0 j).1.2).l,(readR aE (stG sp l0 k0 j).1.1 (stG sp l0 k0 j).1.2).k):=by
 have hs:jG sp l0 k0 most=j:=jG_one ok hl h1 (by unfold goB;rw [hm];rfl)
 refine ⟨hs,?_⟩
 obtain ⟨f1,f2⟩:=read_leave aE rfl (stG sp l0 k0 j).1.1 (stG sp l0 k0 j).1.2
 unfold endG
 rw [hs]
 dsimp only
 rw [if_neg (by rw [hm];simp),f1,f2]
def zS:Nat→CV:=fun _=>.top
end
section
variable {gs:List Nat} [OkG gs] [OkT gs]
open Go.RowKit Cal

theorem getS_mu (l:List (List UInt8)) (k:Nat) (hl:0<l.length):muS (getS l k).1.1 (getS l k).1.2≤muS l k:=by
 obtain ⟨_,e2,_,e4,e5,_⟩:=enter_mu (t:=48) (l:=l) (k:=k) hl
 have he:0<(enterL 48 l k).length:=by
  by_cases h0:(enterR 48 l k).k=0
  ·rw [e4 h0];omega
  ·rw [e5 h0];omega
 have hs:=jG_stop (sp:=partSp) (l0:=enterL 48 l k) (k0:=(enterR 48 l k).k) (most:=8) part_ok he
 have hb:=stG_bd (sp:=partSp) (l0:=enterL 48 l k) (k0:=(enterR 48 l k).k) (most:=8) part_ok he _ hs.1
 have hE:muS (endP l k).1 (endP l k).2≤muS l k:=by
  unfold endP endG
  dsimp only
  split
  ·obtain ⟨_,f2,_⟩:=leave_mu (l:=(stG partSp (enterL 48 l k) (enterR 48 l k).k (jG partSp (enterL 48 l k) (enterR 48 l k).k 8)).1.1) (k:=3) (by omega)
   have h3:muS (stG partSp (enterL 48 l k) (enterR 48 l k).k (jG partSp (enterL 48 l k) (enterR 48 l k).k 8)).1.1 3≤muS (stG partSp (enterL 48 l k) (enterR 48 l k).k (jG partSp (enterL 48 l k) (enterR 48 l k).k 8)).1.1 (stG partSp (enterL 48 l k) (enterR 48 l k).k (jG partSp (enterL 48 l k) (enterR 48 l k).k 8)).1.2:=by
    unfold muS
    rw [if_neg (by decide)]
    omega
   dsimp only
   omega
  ·obtain ⟨_,f2,_⟩:=leave_mu (l:=(stG partSp (enterL 48 l k) (enterR 48 l k).k (jG partSp (enterL 48 l k) (enterR 48 l k).k 8)).1.1) (k:=(stG partSp (enterL 48 l k) (enterR 48 l k).k (jG partSp (enterL 48 l k) (enterR 48 l k).k 8)).1.2) (by omega)
   dsimp only
   omega
 unfold getS
 split
 ·exact hE
 ·rename_i h0
  dsimp only
  have h1:(endP l k).2=0:=Classical.not_not.1 h0
  refine Nat.le_trans ?_ hE
  unfold muS
  rw [if_pos h1]
  split <;> omega
theorem field_bd (f:Fd) (ho:OkF f) {l:List (List UInt8)} {k m B:Nat} (hl:0<l.length∧l.length≤m) (hb:muS l k≤B):(0<(readF f l k).1.1.length∧(readF f l k).1.1.length≤m+17)∧muS (readF f l k).1.1 (readF f l k).1.2≤B:=by
 have h1:=(field_len f ho (k:=k) hl.1).1
 refine ⟨by omega,?_⟩
 unfold readF
 split
 ·exact Nat.le_trans (getS_mu l k hl.1) hb
 ·exact Nat.le_trans (read_mu (fdA f) (l:=l) (k:=k) hl.1).2.1 hb
section
variable (n:Nat) (l:List (List UInt8)) (k:Nat)
theorem readF_g {f:Fd} (hc:f.call≠0):readF f l k=(((readR (fdA f) l k).l,(readR (fdA f) l k).k),⟨(readR (fdA f) l k).v.n,(readR (fdA f) l k).v.t,(readR (fdA f) l k).v.b,zeroS⟩):=by unfold readF;rw [if_neg hc]
theorem octF_ac {gs:List Nat} [Ok9 gs] (least most:Int) (hl:0<l.length∧l.length≤1000000) (hb:(nowL l).length≤10000000):AC gs Tryz.prog 88 [rdO n l k] [.op 0 (some n) 0,.c (.int .i64 least),.c (.int .i64 most)] (fun r H'=>r=bsC (readF ⟨6,least,most⟩ l k).2.b∧H'=[rdO n (readF ⟨6,least,most⟩ l k).1.1 (readF ⟨6,least,most⟩ l k).1.2]):=by
 have h:=octets08_ac (gs:=gs) n l k least most hl hb
 rw [readF_g l k (show ¬ (6:Int)=0 by decide),readR_g vB [] rfl (t:=4) (f:=octM least most) (by show ¬ (6:Int)=1;decide) (by show ¬ (6:Int)=2;decide) (by show ¬ (6:Int)=11;decide) (by funext b;rfl) rfl]
 exact h
theorem momF_ac {gs:List Nat} [Ok9 gs] (least most:Int) (hl:0<l.length∧l.length≤1000000) (hb:(nowL l).length≤10000000):AC gs Tryz.prog 89 [rdO n l k] [.op 0 (some n) 0] (fun r H'=>r=.c (.int .i64 (readF ⟨9,least,most⟩ l k).2.n)∧H'=[rdO n (readF ⟨9,least,most⟩ l k).1.1 (readF ⟨9,least,most⟩ l k).1.2]):=by
 have h:=moment08_ac (gs:=gs) n l k hl hb
 rw [readF_g l k (show ¬ (9:Int)=0 by decide),readR_g vN 0 rfl (t:=24) (f:=fun b=>(getV b,getE b)) (by show ¬ (9:Int)=1;decide) (by show ¬ (9:Int)=2;decide) (by show ¬ (9:Int)=11;decide) (by funext b;rfl) rfl]
 exact h
theorem intF_ac {gs:List Nat} [Ok9 gs] (least most:Int) (hl:0<l.length∧l.length≤1000000) (hb:(nowL l).length≤10000000):AC gs Tryz.prog 45 [rdO n l k] [.op 0 (some n) 0,.c (.int .i64 least),.c (.int .i64 most)] (fun r H'=>r=.c (.int .i64 (readF ⟨3,least,most⟩ l k).2.n)∧H'=[rdO n (readF ⟨3,least,most⟩ l k).1.1 (readF ⟨3,least,most⟩ l k).1.2]):=by
 have h:=int08_ac (gs:=gs) n l k least most hl hb
 rw [readF_g l k (show ¬ (3:Int)=0 by decide),readR_g vN 0 rfl (t:=2) (f:=fun b=>rangeM b least most) (by show ¬ (3:Int)=1;decide) (by show ¬ (3:Int)=2;decide) (by show ¬ (3:Int)=11;decide) (by funext b;rfl) rfl]
 exact h
end
def recC (kind:Int) (fR fP fG:FuncId):CV:=.agg 4 (fl [.c (.int .i64 kind),.fn fR 0 fun _=>.top,.fn fP 0 fun _=>.top,.fn fG 0 fun _=>.top])
end
section
open Go.RowKit Cal
def caseF (vs:List V4):Nat→CV:=fl [.c (.int .i64 (vs.getD 0 V4.z).who.1),strC (vs.getD 0 V4.z).who.2.1,strC (vs.getD 0 V4.z).who.2.2,bsC (vs.getD 1 V4.z).b,.c (.int .i64 (vs.getD 2 V4.z).n),.c (.int .i64 (vs.getD 3 V4.z).n),bsC (vs.getD 4 V4.z).b,bsC (vs.getD 5 V4.z).b]
def authF (vs:List V4):Nat→CV:=fl [.c (.int .i64 (vs.getD 0 V4.z).n),bsC (vs.getD 1 V4.z).b,.c (.int .i64 (vs.getD 2 V4.z).n),.c (.int .i64 (vs.getD 3 V4.z).n),.c (.int .i64 (vs.getD 4 V4.z).n),.c (.int .i64 (vs.getD 5 V4.z).n),.c (.int .i64 (vs.getD 6 V4.z).n)]
def markF (vs:List V4):Nat→CV:=fl [.c (.int .i64 (vs.getD 0 V4.z).n),.c (.int .i64 (vs.getD 1 V4.z).n),.c (.int .i64 (vs.getD 2 V4.z).n),.c (.int .i64 (vs.getD 3 V4.z).n)]
def tickF (vs:List V4):Nat→CV:=fl [strC (vs.getD 0 V4.z).t,bsC (vs.getD 1 V4.z).b,.c (.int .i64 (vs.getD 2 V4.z).n)]
def issF (vs:List V4):Nat→CV:=fl [bsC (vs.getD 0 V4.z).b,bsC (vs.getD 1 V4.z).b]
end
section
open Go.RowKit Cal
section
variable (n:Nat) (w:W8) (least most:Int) (v:V4)
theorem doW_g {kd:Int} (h1:kd≠1) (h2:kd≠2) (h3:kd≠11) (nn:Int) (b t:List UInt8) (w:W8):doW ⟨kd,nn,false,b,t⟩ w=putW (bodyV ⟨kd,nn,false,b,t⟩).1 (bodyV ⟨kd,nn,false,b,t⟩).2.1 (bodyV ⟨kd,nn,false,b,t⟩).2.2 w:=by
 unfold doW
 rw [if_neg h1,if_neg h2,if_neg h3]
theorem putFd_g {f:Fd} (h:f.call≠0):putFd f v w=doW (fdV f v) w:=by unfold putFd;rw [if_neg h]
theorem octP_ac {gs:List Nat} [Ok9 gs] (hs:OkW w) (hb:v.b.length≤1000000):AC gs Tryz.prog 101 [wrO n w] [.op 0 (some n) 0,bsC v.b] (fun r H'=>r=.c (.tuple #[])∧H'=[wrO n (putFd ⟨6,least,most⟩ v w)]):=by
 have e:putFd ⟨6,least,most⟩ v w=putW 4 v.b 0 w:=by rw [putFd_g _ _ (show ¬ (6:Int)=0 by decide)];exact doW_g (kd:=6) (by decide) (by decide) (by decide) _ _ _ _
 rw [e]
 exact octetsW_ac n w v.b hb hs
theorem momP_ac {gs:List Nat} [Ok9 gs] (hs:OkW w):AC gs Tryz.prog 102 [wrO n w] [.op 0 (some n) 0,.c (.int .i64 v.n)] (fun r H'=>r=.c (.tuple #[])∧H'=[wrO n (putFd ⟨9,least,most⟩ v w)]):=by
 have e:putFd ⟨9,least,most⟩ v w=putW 24 (if inT v.n then bodyL (ofM v.n) else []) (ofE v.n) w:=by rw [putFd_g _ _ (show ¬ (9:Int)=0 by decide)];exact doW_g (kd:=9) (by decide) (by decide) (by decide) _ _ _ _
 rw [e]
 exact momentW_ac n w v.n hs
theorem intP_ac {gs:List Nat} [Ok9 gs] (hs:OkW w) (hz:-9223372036854775808≤v.n∧v.n≤9223372036854775807):AC gs Tryz.prog 58 [wrO n w] [.op 0 (some n) 0,.c (.int .i64 v.n)] (fun r H'=>r=.c (.tuple #[])∧H'=[wrO n (putFd ⟨3,least,most⟩ v w)]):=by
 have e:putFd ⟨3,least,most⟩ v w=putW 2 (putN v.n) 0 w:=by rw [putFd_g _ _ (show ¬ (3:Int)=0 by decide)];exact doW_g (kd:=3) (by decide) (by decide) (by decide) _ _ _ _
 rw [e]
 exact intW_ac n w v.n hz hs
end
end
section
open Go.RowKit Cal
def iV (z:Int):CV:=.c (.int .i64 z)
section
variable {gs:List Nat} [Ok9 gs]
end
section
variable {gs:List Nat} [OkG gs] [OkT gs]
def PW (gs:List Nat) (f:FuncId) (w:W8) (args:List CV) (w':W8):Prop:=∀ n,AC gs Tryz.prog f [wrO n w] (.op 0 (some n) 0::args) (fun r H'=>r=.c (.tuple #[])∧H'=[wrO n w'])
variable {c:C11}
end
end
section
open Go.RowKit Cal
section
variable {gs:List Nat} [OkG gs] [OkT gs] {b:B3}
set_option maxHeartbeats 2000000 in
theorem put13_ac {gs:List Nat} [OkG gs] (n:Nat) {i:Nat} {r:R8} {w:W8} (hI:Inv8 i r w) (hi:i≤500) (a:N4) (hr:rightN a=true):AC gs Tryz.prog 61 [wrO n w] [.op 0 (some n) 0,anC a] (fun r H'=>r=.c (.tuple #[])∧H'=[wrO n (ancW a w)]):=by
 have hg:=good_A hr
 have I1:Inv8 (i+1) (rdoS (w1 48) r) (openW 48 w):=by
  have:=inv_do hI (small_w1 (t:=48) (by decide))
  rwa [do_w1] at this
 have I2:=inv_putFd ok_Ge hg.ge I1
 have I3:=inv_putFd ok_Id hg.ky I2
 have I4:=inv_putFd ok_Mo hg.fr I3
 have I5:=inv_putFd ok_Mo hg.til I4
 have hho:hexOk a.2.1=true:=by unfold rightN at hr;simp only [Bool.and_eq_true] at hr;exact hr.1.1
 have hm:=mnum_ac (gs:=gs) a.2.1
 rw [hho] at hm
 simp only [if_true] at hm
 have hk:(hexB a.2.1).length≤1000000:=by
  have:=(fd_body ok_Id hg.ky (by decide)).2.2.2.2.2.2.2.2.1
  have h:(hexB a.2.1).length≤4096:=this
  omega
 refine ac_oF 34 Tryz.func61 fun al w0 F0 St0=>?_;refine jcr ?_
 refine jqe (jebx 4 fun p1=>?_)
 refine jU 5010065 ?_;refine jF1 1165119009001 hm ?_
 refine jqm (jmcE 0 (failW_ac n w 0) ?_)
 rw [failW_zero]
 refine jU 165 ?_;refine jF2 5090165 0 (openW_ac n w 48 (inv_okW hI (by omega))) ?_;refine jF2 1165 0 (intP_ac n _ 1 1048576 (vN4 a.1) (inv_okW I1 (by omega)) (fd_body ok_Ge hg.ge (by decide)).2.2.2.2.2.2.1) ?_;refine jF2 501000165 0 (octP_ac n _ 16 16 (vB4 (hexB a.2.1)) (inv_okW I2 (by omega)) hk) ?_;refine jF2 505000000165 0 (momP_ac n _ 0 0 (vN4 a.2.2.1) (inv_okW I3 (by omega))) ?_;refine jF2 12005 0 (momP_ac n _ 0 0 (vN4 a.2.2.2) (inv_okW I4 (by omega))) ?_;refine jF2 5 0 (closeW_ac n _ (inv_okW I5 (by omega))) ?_
 exact jnh
theorem rowsN_ac {gs:List Nat} [Ok9 gs] {f:FuncId} (hc:calleeB Tryz.prog f=true) (n:Nat) (tag:Int) (ws:W8) (l:List N4) (sG:Nat→W8) (h0:OkW ws) (hs:sG 0=openW tag ws) (hok:∀ i,i≤l.length→OkW (sG i)) (hl:l.length≤1000000) (hf:∀ i,i<l.length→AC gs Tryz.prog f [wrO n (sG i)] [.op 0 (some n) 0,anC (l.getD i a00)] (fun r H'=>r=.c (.tuple #[])∧H'=[wrO n (sG (i+1))])) :
  AC gs Tryz.prog 60 [wrO n ws] [.op 0 (some n) 0,.c (.int .i64 tag),asC l,.fn f 0 fun _=>.top] (fun r H'=>r=.c (.tuple #[])∧H'=[wrO n (closeV (sG l.length))]):=by
 refine jF5 116 26 Tryz.func60 fun al w0 F0 St0=>?_;refine jF2 205131675 0 (openW_ac n ws tag h0) ?_
 refine jlp (α:=Nat) [9,9,15,23] (fun i=>[(15,.c (.int .i64 (i:Nat)))]) (fun i=>[wrO n (sG i)]) (fun i=>i≤l.length) (fun i=>l.length-i) 0 (hH:=?_) (hr:=?_)
 ·rw [hs];exact HEnt.refl _
 rintro i (hi:i≤l.length)
 refine jU 7526 ?_;refine jF3 7006207810 84000200020006000 (fun h305=>?_) fun h305=>?_
 rotate_left
 ·have hie:i=l.length:=by omega
  subst hie
  refine jU 1200 ?_;refine jF2 5 0 (closeW_ac n (sG l.length) (hok _ (Nat.le_refl _))) ?_
  exact jnh
 refine jq (jrdrA 4) ?_
 refine jqe (jeal (n:=4) zr33 rfl fun p2=>?_)
 refine jqm (jmstF 4 (anF (l.getD i a00)) ?_ ?_)
 ·exact jal
 refine jU 112005 ?_;refine jqo (jrdoA 4) ?_
 refine jqm (m_callHV1 (i:=0) rfl rfl (by assumption) rfl (hf i (by omega)) (.cons cP (.cons (CEnt.agg rfl (fun j hj=>CEnt.of_eq (by show anF _ (0+j)=anF _ j;rw [Nat.zero_add]))) .nil)) rfl rfl ?_)
 rintro _ _ ⟨rfl,rfl⟩
 refine ⟨_,rfl,?_⟩
 refine jU 851920084005 ?_
 exact jlend (i+1)
theorem right_an {b:B3} (h:rightB b=true) {i:Nat} (hi:i<b.2.2.length):rightN (b.2.2.getD i a00)=true:=by
 unfold rightB at h
 simp only [Bool.and_eq_true] at h
 have:=goes_all h.2 i hi
 unfold okN at this
 rw [Bool.and_eq_true] at this
 exact this.1
theorem nb_0 {gs:List Nat} [OkG gs]:PW gs 57 w00 [.c (.int .i64 48)] (openW 48 w00):=fun n=>openW_ac n w00 48 ok0
theorem nb_1 {gs:List Nat} [OkG gs] [OkT gs] (h:GoodB3 b):PW gs 58 (openW 48 w00) [.c (.int .i64 b.1)] (bW1 b):=fun n=>intP_ac n _ 1 1099511627776 (vN4 b.1) (inv_okW inv_0 (by decide)) (fd_body ok_Se h.ve (by decide)).2.2.2.2.2.2.1
theorem nb_2 {gs:List Nat} [OkG gs] [OkT gs] (h:GoodB3 b):PW gs 59 (bW1 b) [strC b.2.1,.c (.int .i64 64)] (bW2 b):=fun n=>by
 have hl:=asked_len h.sp
 have ht:=textW_ac (gs:=gs) n (bW1 b) b.2.1 64 (by omega) (inv_okW (inv_b1 h) (by decide))
 have e:doW (vTx b.2.1) (bW1 b)=putW 12 (if askedM b.2.1 64=0 then b.2.1 else []) (askedM b.2.1 64) (bW1 b):=doW_g (kd:=7) (by decide) (by decide) (by decide) _ _ _ _
 rw [← e] at ht
 exact ht
theorem nb_3 {gs:List Nat} [OkG gs] (hr:rightB b=true) (h:GoodB3 b):PW gs 60 (bW2 b) [.c (.int .i64 49),asC b.2.2,.fn 61 0 fun _=>.top] (bW3 b):=fun n =>
 rowsN_ac (f:=61) (by kernel_rfl) n 49 (bW2 b) b.2.2 (aW (bW2 b) b.2.2) (inv_okW (inv_b2 h) (by decide)) rfl (fun i hi=>inv_okW (inv_a h i hi) (by have:=h.n8;omega)) (by have:=h.n8;omega) (fun i hi=>put13_ac n (inv_a h i (by omega)) (by have:=h.n8;omega) (b.2.2.getD i a00) (right_an hr hi))
theorem nb_4 {gs:List Nat} [OkG gs] (h:GoodB3 b):PW gs 62 (bW3 b) [] (bW4 b):=fun n=>closeW_ac n (bW3 b) (inv_okW (inv_b3 h) (by decide))
set_option maxHeartbeats 4000000 in
theorem bytes13_ac (b:B3):ACp gs Tryz.prog 25 [bnC b] (.tup 2 (fl [bsC (if rightB b=true then bunB b else []),.err (if rightB b=true then 0 else 4)])):=by
 refine ac_oF 31 Tryz.func25 fun al w0 F0 St0=>?_;refine jcr ?_
 refine jqe (jebx 3 fun p1=>?_)
 refine jU 7511 ?_;refine jE (blk_ent 0 (m:=3) (F:=bnF b) rfl (by decide) (fun _=>rfl) (fun j hj=>CEnt.of_eq (fl_map _ hj))) ?_;refine jcr ?_;refine jqo (jrdoA 3) ?_;refine jF1 530 (bright_ac b) ?_;refine jF3 0 810 (fun h79=>?_) fun h79=>?_
 ·refine jcs ?_;refine jcd (oN 0 3) ?_;refine jU 80003000700088070704000000 ?_
  have hr:rightB b=false:=by simpa using ‹(!rightB b)=true›
  rw [hr]
  exact cT cN (CEnt.errN rfl)
 have hr:rightB b=true:=by simpa using ‹(!rightB b)=false›
 have hg:=good_B3 hr
 rw [if_pos hr,if_pos hr]
 refine jcr ?_;refine jq (rd_build (n:=3) rfl zr104 pl104 rfl rfl) ?_
 refine jqe (jebx 3 fun p2=>?_)
 refine jU 51 ?_;refine code_knowG (know_op 4 rfl) fun hn=>?_
 obtain ⟨n,rfl⟩:=hn
 refine jE (newW n 1 rfl cZ cZ CEnt.nil) ?_;refine jnm ?_;refine jU 16 ?_;refine jF2 5090165 1 (nb_0 n) ?_;refine jF2 50100165 1 (nb_1 hg n) ?_;refine jF2 501000165 1 (nb_2 hg n) ?_;refine jF2 165 1 (nb_3 hr hg n) ?_;refine jF2 165 1 (nb_4 hg n) ?_;refine jF2 80007000511900900 1 (doneW_ac n (bW4 b) (inv_okW (inv_b4 hg) (by decide))) ?_
 obtain ⟨e1,e2⟩:=bun_put hg
 rw [e1,e2]
 exact cZ
end
end
section
open Go.RowKit Cal
def stA (l:List N4) (i:Nat):List N4:=sortA (l.take i)++l.drop i
def midA (l:List N4) (i j:Nat):List N4:=(sortA (l.take i)).take j++l.getD i a00::((sortA (l.take i)).drop j++l.drop (i+1))
section
variable {l:List N4} {i j:Nat}
theorem srt_len (hi:i≤l.length):(sortA (l.take i)).length=i:=by rw [sortA_len,List.length_take];omega
theorem stA_len (hi:i≤l.length):(stA l i).length=l.length:=by
 unfold stA
 rw [List.length_append,srt_len hi,List.length_drop]
 omega
theorem stA_one:stA l 1=l:=by
 cases l with
 | nil=>rfl
 | cons x l=>rfl
theorem stA_all:stA l l.length=sortA l:=by unfold stA;simp_all
theorem mid_len (hi:i<l.length) (hj:j≤i):(midA l i j).length=l.length:=by
 grind [srt_len,midA]
theorem mid_at (hi:i<l.length) (hj:j≤i):(midA l i j).getD j a00=l.getD i a00:=by
 grind [srt_len,midA]
theorem mid_prev (hi:i<l.length) (hj:j≤i) (h0:0<j):(midA l i j).getD (j-1) a00=(sortA (l.take i)).getD (j-1) a00:=by
 grind [srt_len,midA]
theorem mid_start (hi:i<l.length):midA l i i=stA l i:=by
 grind [srt_len,midA,stA,List.drop_eq_getElem_cons]
theorem mid_swap (hi:i<l.length) (hj:j≤i) (h0:0<j):((midA l i j).set j ((midA l i j).getD (j-1) a00)).set (j-1) ((midA l i j).getD j a00)=midA l i (j-1):=by
 have hs:=srt_len (l:=l) (i:=i) (by omega)
 rw [mid_prev hi hj h0,mid_at hi hj]
 grind [Nat.add_sub_cancel,midA,List.drop_eq_getElem_cons,List.length_take]
theorem mid_end (hi:i<l.length) (hj:j≤i) (h1:∀ k,j≤k→k<i→(l.getD i a00).1<((sortA (l.take i)).getD k a00).1) (h2:j=0∨((sortA (l.take i)).getD (j-1) a00).1≤(l.getD i a00).1):midA l i j=stA l (i+1):=by
 have hs:=srt_len (l:=l) (i:=i) (by omega)
 have e:l.take (i+1)=l.take i++[l.getD i a00]:=by
  rw [List.take_succ_eq_append_getElem hi]
  simp [List.getD,hi]
 grind [pos_at,midA,stA,sortA_snoc,insA]
end
theorem cmpI_lt {a b:Int}:(if a<b then (-1:Int) else if b<a then 1 else 0)<0↔a<b:=by
 omega
end
section
open Go.RowKit Cal
def genV:CV:=.fn 33 0 fun _=>.top
theorem cmpI_neg {a b:Int}:cmpI a b<0↔a<b:=cmpI_lt
set_option maxHeartbeats 2000000 in
theorem ins13_ac {gs:List Nat} (g:Option Nat) (l:List N4) (b:Nat) (hb:b≤l.length) (hl:l.length≤1000):AC gs Tryz.prog 112 [ownA g l] [.os 0 g 0 l.length 4,.c (.int .i64 0),.c (.int .i64 (b:Nat)),genV] (fun r H'=>r=.c (.tuple #[])∧H'=[ownA g (stA l b)]):=by
 refine ac_oF 53 Tryz.func112 fun al w0 F0 St0=>?_
 first
  |(have hend:midA l i j=stA l (i+1):=mid_end hil hj hk (by
    by_cases e:j=0
    ·exact .inl e
    ·refine .inr (Int.not_lt.1 fun hlt=>?_)
     rw [← mid_at hil hj,← mid_prev hil hj (by omega)] at hlt
     have:=cmpI_neg.2 hlt
     first|omega|exact absurd this h12|simp_all)
    rw [hend])
  | skip
 refine jU 2051916 ?_
 refine jlp (α:=Nat) [8,9,12,52] (fun i=>[(8,.c (.int .i64 (i:Nat)))]) (fun i=>[(g,.blk (l.length * 4) (asF (stA l i)))]) (fun i=>1≤i∧(i≤b∨i=1)) (fun i=>b-i) 1 (h0:=⟨Nat.le_refl _,.inr rfl⟩) (hH:=?_) (hr:=?_)
 ·rw [stA_one];exact HEnt.refl _
 rintro i ⟨hi1,hib⟩
 refine jcs ?_
 first
  |(have hend:midA l i j=stA l (i+1):=mid_end hil hj hk (by
    by_cases e:j=0
    ·exact .inl e
    ·refine .inr (Int.not_lt.1 fun hlt=>?_)
     rw [← mid_at hil hj,← mid_prev hil hj (by omega)] at hlt
     have:=cmpI_neg.2 hlt
     first|omega|exact absurd this h12|simp_all)
    rw [hend])
  | skip
 refine jU 52116 ?_;refine jF3 205116207810 4000200020006000 (fun h11=>?_) fun h11=>?_
 rotate_left
 ·have hib2:i=b∨(i=1∧b=0):=by omega
  have he:stA l i=stA l b:=by
   rcases hib2 with e|⟨e1,e2⟩
   ·rw [e]
   ·rw [e1,e2,stA_one];rfl
  exact end_own (.inr rfl) _ [_] [0] (by decide) rfl (res_0 rfl) ⟨rfl,by rw [← he];unfold ownA;rw [show (stA l i).length=l.length by rw [he];exact stA_len hb];rfl⟩
 have hil:i<l.length:=by omega
 refine jlp (α:=Nat) [9,9,18,52] (fun j=>[(9,.c (.int .i64 (j:Nat)))]) (fun j=>[(g,.blk (l.length * 4) (asF (midA l i j)))]) (fun j=>j≤i∧∀ k,j≤k→k<i→(l.getD i a00).1<((sortA (l.take i)).getD k a00).1) (fun j=>j) i (h0:=⟨Nat.le_refl _,fun k h1 h2=>by omega⟩) (hH:=?_) (hr:=?_)
 ·rw [mid_start hil];exact HEnt.refl _
 rintro j ⟨hj,hk⟩
 have hml:=mid_len hil hj
 refine jU 77 ?_;refine jcd (oT [0,2,4,6,8,10,12,14,16,18,20,22,24,26,29,30,32] .done) ?_;refine jU 708007070 ?_;refine jysp 21 (fun g12=>?_) fun g12=>?_
 rotate_left
 ·refine jU 600600600600600600600600600600 ?_;refine jys1 ?_;refine jU 84004000200020006000300880300000600 ?_
  first
   |(have hend:midA l i j=stA l (i+1):=mid_end hil hj hk (by
     by_cases e:j=0
     ·exact .inl e
     ·refine .inr (Int.not_lt.1 fun hlt=>?_)
      rw [← mid_at hil hj,← mid_prev hil hj (by omega)] at hlt
      have:=cmpI_neg.2 hlt
      omega)
     rw [hend])
   | skip
  refine jU 85191200 ?_
  exact jlend (i+1) (h1:=⟨by omega,.inl (by omega)⟩)
 refine jU 707070 ?_;refine jyq (jri (i:=j) (hz:=by omega)) ?_;refine jyo (jrdoA 4) ?_;refine jU 300007070 ?_;refine jyq (jri (i:=(j-1)) (hz:=by omega)) ?_;refine jyo (jrdoA 4) ?_
 refine jye (e_callV rfl rfl (by kernel_rfl) (byGen_ac ((midA l i j).getD j a00) ((midA l i j).getD (j-1) a00)) (.cons (a_ent fun m hm=>CEnt.of_eq (congrArg (asF _) (by omega))) (.cons (a_ent fun m hm=>CEnt.of_eq (congrArg (asF _) (by omega))) .nil)) rfl rfl ?_)
 rintro _ _ ⟨rfl,rfl⟩
 refine jU 8803000000800 ?_;refine jF3 207810 84004000200020006000 (fun h12=>?_) fun h12=>?_
 rotate_left
 ·first
   |(have hend:midA l i j=stA l (i+1):=mid_end hil hj hk (by
     by_cases e:j=0
     ·exact .inl e
     ·refine .inr (Int.not_lt.1 fun hlt=>?_)
      rw [← mid_at hil hj,← mid_prev hil hj (by omega)] at hlt
      have:=cmpI_neg.2 hlt
      omega)
     rw [hend])
   | skip
  refine jU 85191200 ?_
  exact jlend (i+1) (h1:=⟨by omega,.inl (by omega)⟩)
 have hj0:0<j:=by omega
 have hlt:(l.getD i a00).1<((sortA (l.take i)).getD (j-1) a00).1:=by
  rw [mid_at hil hj,mid_prev hil hj hj0] at *
  exact cmpI_neg.1 (by simpa using h12)
 refine jcdZ (oT [0,2,4,6,8,10,12,14,16,18,20,22,24,26,28,31,32,35] .done) ?_;refine jU 400000400000400000400000 ?_;refine jzq jra ?_;refine jU 400000400000 ?_;refine jzq jra ?_;refine jzq (jri (i:=(j-1)) (hz:=by omega)) ?_;refine jzo (jrdoA 4) ?_;refine jU 400000400000 ?_;refine jzq (jri (i:=j) (hz:=by omega)) ?_;refine jzo (jrdoA 4) ?_;refine jzq (jri (i:=j) (hz:=by omega)) ?_;refine z_ent (weaken 46 (anC ((midA l i j).getD (j-1) a00)) (a_ent fun m hm=>CEnt.of_eq (congrArg (asF _) (by omega)))) ?_;refine z_ent (weaken 50 (anC ((midA l i j).getD j a00)) (a_ent fun m hm=>CEnt.of_eq (congrArg (asF _) (by omega)))) ?_
 refine jzm (jmstF 4 (asF ((midA l i j).set j ((midA l i j).getD (j-1) a00))) ?_ ?_)
 ·exact (fun q hq=>a_set ((midA l i j).getD (j-1) a00) (by omega) (by omega) rfl (fun m hm=>by rcases m with _|_|_|_|m <;> exact cZ) q (by rw [hml];exact hq))
 refine jzq (jri (i:=(j-1)) (hz:=by omega)) ?_
 refine jzm (jmstF 4 (asF (midA l i (j-1))) ?_ ?_)
 ·exact (fun q hq=>by
   rw [← mid_swap hil hj hj0]
   exact a_set ((midA l i j).getD j a00) (by omega) (by rw [List.length_set];omega) rfl (fun m hm=>by rcases m with _|_|_|_|m <;> exact cZ) q (by rw [List.length_set,hml];exact hq))
 refine jU 851912008400700000 ?_
 refine jlend (j-1) (h1:=?_)
 ·exact ⟨by omega,fun k h1 h2=>by
   by_cases e:k=j-1
   ·rw [e];exact hlt
   ·exact hk k (by omega) h2⟩

theorem shr_one {a:Int} {n:Nat} (h:a=(n:Nat)):a.fdiv (2 ^ (min (Int.toNat 1) (IntKind.bits .u64)))=((n / 2:Nat):Int):=by
 subst h
 show Int.fdiv _ (2 ^ (min 1 64))=_
 rw [show min 1 64=1 from rfl,Int.fdiv_eq_ediv_of_nonneg _ (by decide)]
 omega
set_option maxHeartbeats 4000000 in
theorem sym13_ac {gs:List Nat} (g:Option Nat) (l:List N4) (hl:l.length=21):AC gs Tryz.prog 113 [ownA g l] [.os 0 g 0 l.length 4,.c (.int .i64 0),.c (.int .i64 20),.c (.int .i64 (l.length:Nat)),genV] (fun r H'=>r=.c (.tuple #[])∧∃ l',H'=[ownA g l']∧l'.length=l.length):=by
 refine jF5 5291167 220 Tryz.func113 fun al w0 F0 St0=>?_;refine jF3 0 5291167810 (fun h382=>?_) fun h382=>?_
 ·exfalso;exact absurd h382 (by decide)
 refine jF3 20751165116 0 (fun h406=>?_) fun h406=>?_
 rotate_left
 ·exfalso;omega
 refine jlp (α:=Nat×Nat) [14,16,83,106] (fun (i,j)=>[(14,.c (.int .i64 (i:Nat))),(15,.c (.int .i64 (j:Nat)))]) (fun _=>[(g,.blk (l.length * 4) (asF l))]) (fun (i,j)=>i≤j∧j≤20) (fun (i,j)=>j-i) (0,20) (h0:=⟨Nat.zero_le _,Nat.le_refl _⟩) (hr:=?_)
 rintro ⟨i,j⟩ ⟨(hij:i≤j),(hj:j≤20)⟩
 refine jU 521167 ?_;refine jF3 911620810 205116784000200020006000 (fun h412=>?_) fun h412=>?_
 ·refine jq (jrv .i64 .u64) ?_;refine jq (rd_shr rfl rfl rfl (by (omega)) ((((i+j) / 2:Nat):Int)) (shr_one (by omega))) ?_;refine jq (jrv .u64 .i64) ?_;refine jU 751 ?_;refine jcd (oT [0,2,4,6,8,10,12,14,16,19,20,22] .done) ?_;refine jU 707070 ?_;refine jyq (jri (i:=20) (hz:=by omega)) ?_;refine jyo (jrdoA 4) ?_;refine jU 7070 ?_;refine jyq (jri (i:=(i+j) / 2) (hz:=by omega)) ?_;refine jyo (jrdoA 4) ?_
  refine jye (e_callV rfl rfl (by kernel_rfl) (byGen_ac (l.getD 20 a00) (l.getD ((i+j) / 2) a00)) (.cons (a_ent fun m hm=>CEnt.of_eq (congrArg (asF _) (by omega))) (.cons (a_ent fun m hm=>CEnt.of_eq (congrArg (asF _) (by omega))) .nil)) rfl rfl ?_)
  rintro _ _ ⟨rfl,rfl⟩
  refine jU 880100000800 ?_;refine jF3 84005191200 8400511200 (fun h414=>?_) fun h414=>?_
  rotate_left
  ·exact jlend (i,(i+j) / 2)
  exact jlend ((i+j) / 2+1,j)
 refine jlp (α:=Nat×List N4) [17,17,108,128] (fun (k,X)=>[(17,.c (.int .i64 (k:Nat)))]) (fun (k,X)=>[(g,.blk (l.length * 4) (asF X))]) (fun (k,X)=>k≤20∧X.length=l.length) (fun (k,_)=>k) (20,l) (h0:=⟨Nat.le_refl _,rfl⟩) (hr:=?_)
 rintro ⟨k,X⟩ ⟨(hk:k≤20),(hX:X.length=l.length)⟩
 refine jU 521167 ?_;refine jF3 207810 3000700084000200020006000 (fun h421=>?_) fun h421=>?_
 rotate_left
 ·exact end_own (.inl rfl) _ [_] [0] (by decide) rfl (res_0 rfl) ⟨rfl,X,by unfold ownA;rw [hX];rfl,hX⟩
 refine jcdZ (oT [0,2,4,6,8,10,12,14,16,18,20,22,24,26,28,31,32,35] .done) ?_;refine jU 400000400000400000400000 ?_;refine jzq jra ?_;refine jU 400000400000 ?_;refine jzq jra ?_;refine jzq (jri (i:=(k-1)) (hz:=by omega)) ?_;refine jzo (jrdoA 4) ?_;refine jU 400000400000 ?_;refine jzq (jri (i:=k) (hz:=by omega)) ?_;refine jzo (jrdoA 4) ?_;refine jzq (jri (i:=k) (hz:=by omega)) ?_;refine z_ent (weaken 122 (anC (X.getD (k-1) a00)) (a_ent fun m hm=>CEnt.of_eq (congrArg (asF _) (by omega)))) ?_;refine z_ent (weaken 126 (anC (X.getD k a00)) (a_ent fun m hm=>CEnt.of_eq (congrArg (asF _) (by omega)))) ?_
 refine jzm (jmstF 4 (asF (X.set k (X.getD (k-1) a00))) ?_ ?_)
 ·exact (fun q hq=>a_set (X.getD (k-1) a00) (by omega) (by omega) rfl (fun m hm=>by rcases m with _|_|_|_|m <;> exact cZ) q (by rw [hX];exact hq))
 refine jzq (jri (i:=(k-1)) (hz:=by omega)) ?_
 refine jzm (jmstF 4 (asF ((X.set k (X.getD (k-1) a00)).set (k-1) (X.getD k a00))) ?_ ?_)
 ·exact (fun q hq=>a_set (X.getD k a00) (by omega) (by rw [List.length_set];omega) rfl (fun m hm=>by rcases m with _|_|_|_|m <;> exact cZ) q (by rw [List.length_set,hX];exact hq))
 refine jU 851912008400700000 ?_
 refine jlend (k-1,(X.set k (X.getD (k-1) a00)).set (k-1) (X.getD k a00)) (h1:=?_)
 ·show k-1≤20∧_;rw [List.length_set,List.length_set];omega
end
section
def roomV (b off n N:Nat):SV where
 p:=fun _ _ x=>∃ cap,x=.slice (some ⟨b,off,none⟩) n cap∧N≤cap∧cap≤9223372036854775807
 st:=fun _ _ h=>h
 one:=fun ⟨cap,h,_⟩=>by subst h;exact ⟨rfl,rfl⟩
def topF (c:Nat) (F:Nat→CV) (j:Nat):CV:=if j<c then F j else .top
section
variable {P:Program} {G:Gh} {ops:Array Oper} {o:Oper} {s:AS} {r:List Oper} {K:AS→Prop} {t u:TypeId} {x y:Operand} {env:List (Nat×CV)} {b0:Nat→CV} {H:List (Option Nat×Res)}
theorem exec_slice3 {lo hi mx:Option Operand} (ho:o.op=.slice t x lo hi mx) {a:Act} {v:Value} {w:World} (h:(Instr.sliceAt t (a.eval x) (lo.map a.eval) (hi.map a.eval) (mx.map a.eval)).run P w=.ok v w):(execOp a.eval o).run P w=.ok (.value v) w:=by
 simp only [execOp,ho]
 exact vOk h
theorem rd_slice3 {e:TypeId} {i off k n l h m:Nat} {g:Option Nat} {xl xh xm:Operand} {k1 k2 k3:IntKind} {z1 z2 z3:Int} (ho:o.op=.slice t x (some xl) (some xh) (some xm)) (hx:s.eval x=.os i g off n k) (h1:P.underlying t=some (.slice e)) (h5:(P.info? e).map (·.size)=some k)
  (e1:s.eval xl=.c (.int k1 z1)) (e2:s.eval xh=.c (.int k2 z2)) (e3:s.eval xm=.c (.int k3 z3)) (q1:z1=(l:Nat)) (q2:z2=(h:Nat)) (q3:z3=(m:Nat)) (hlh:l≤h) (hhm:h≤m) (hmn:m≤n):ARd P G o s .top:=fun St a w hr=>by
 obtain ⟨info,hi',hs⟩:=Option.map_eq_some_iff.1 h5
 have v1:a.eval xl=.int k1 (l:Nat):=by have:=evR hr e1;rw [q1] at this;exact this
 have v2:a.eval xh=.int k2 (h:Nat):=by have:=evR hr e2;rw [q2] at this;exact this
 have v3:a.eval xm=.int k3 (m:Nat):=by have:=evR hr e3;rw [q3] at this;exact this
 obtain ⟨ao,cap,e0,hc⟩:∃ ao cap,a.eval x=.slice ao n cap∧n≤cap:=by
  have he:=evR hr hx
  cases g with
  | none=>exact ⟨none,0,by rw [he.2,he.1],by rw [he.1];exact Nat.zero_le _⟩
  | some b=>obtain ⟨cap,e0,h2,_⟩:=he;exact ⟨_,cap,e0,h2⟩
 refine ⟨.slice (if m=l then ao else ao.map (·.add (l * k))) (h-l) (m-l),fun W _=>exec_slice3 ho ?_,trivial⟩
 rw [e0]
 simp only [Option.map_some,v1,v2,v3]
 simp [Instr.sliceAt,Instr.slice,underlying,h1,Instr.sliceBounds,Instr.sliceBound,asIntOf,sizeOf,typeInfo,hi',hs,show m≤cap by omega,hhm,hlh]
theorem rd_pre {e:TypeId} {i b n k v:Nat} {hi:Operand} {k1:IntKind} {z:Int} (ho:o.op=.slice t x none (some hi) none) (hx:s.eval x=.os i (some b) 0 n k) (h1:P.underlying t=some (.slice e)) (h5:(P.info? e).map (·.size)=some k) (e1:s.eval hi=.c (.int k1 z)) (q1:z=(v:Nat)) (hv:v≤n) (hn:0<n):ARd P G o s (.pv (roomV b 0 v n)):=fun St a w hr=>by
 obtain ⟨info,hi',hs⟩:=Option.map_eq_some_iff.1 h5
 have v1:a.eval hi=.int k1 (v:Nat):=by have:=evR hr e1;rw [q1] at this;exact this
 obtain ⟨cap,e0,h2,h3,_⟩:=evR hr hx
 refine ⟨.slice (some ⟨b,0,none⟩) v cap,fun W _=>exec_slice ho ?_,cap,rfl,h2,h3⟩
 rw [e0]
 simp only [Option.map_some,Option.map_none,v1]
 simp [Instr.sliceAt,Instr.slice,underlying,h1,Instr.sliceBounds,Instr.sliceBound,asIntOf,sizeOf,typeInfo,hi',show v≤cap by omega]
 intro h0
 rw [addr_add,Nat.zero_add] at *
theorem rd_lenP {b off n N:Nat} {e:TypeId} (ho:o.op=.call ⟨.builtin .len,#[x],#[t]⟩) (hx:s.eval x=.pv (roomV b off n N)) (h1:P.underlying t=some (.slice e)):ARd P G o s (.c (.int .i64 (n:Nat))):=fun St a w hr=>by
 obtain ⟨cap,e0,_⟩:=evR hr hx
 exact ⟨_,fun W _=>exec_len ho (v:=.int .i64 (n:Nat)) (by rw [e0];simp [Builtin.len_,underlying,h1,goInt]),rfl⟩
theorem rd_past {e:TypeId} {b n N k l v:Nat} {lo hi:Operand} {k1 k2:IntKind} {z1 z2:Int} (ho:o.op=.slice t x (some lo) (some hi) none) (hx:s.eval x=.pv (roomV b 0 n N)) (h1:P.underlying t=some (.slice e)) (h5:(P.info? e).map (·.size)=some k) (e1:s.eval lo=.c (.int k1 z1)) (e2:s.eval hi=.c (.int k2 z2)) (q1:z1=(l:Nat)) (q2:z2=(v:Nat)) (hlv:l<v) (hv:v≤N):ARd P G o s (.pv (roomV b (l * k) (v-l) (v-l))):=fun St a w hr=>by
 obtain ⟨info,hi',hs⟩:=Option.map_eq_some_iff.1 h5
 have v1:a.eval lo=.int k1 (l:Nat):=by have:=evR hr e1;rw [q1] at this;exact this
 have v2:a.eval hi=.int k2 (v:Nat):=by have:=evR hr e2;rw [q2] at this;exact this
 obtain ⟨cap,e0,h2,h3⟩:=evR hr hx
 refine ⟨.slice (some ⟨b,l * k,none⟩) (v-l) (cap-l),fun W _=>exec_slice ho ?_,cap-l,rfl,by omega,by omega⟩
 rw [e0]
 simp only [Option.map_some,v1,v2]
 simp [Instr.sliceAt,Instr.slice,underlying,h1,Instr.sliceBounds,Instr.sliceBound,asIntOf,sizeOf,typeInfo,hi',hs,show v≤cap by omega,show l≤v by omega,show ¬ cap=l by omega]
 rw [addr_add,Nat.zero_add]
theorem md_appIn {e:TypeId} {i b n m k M N:Nat} {f h:Nat→CV} (ho:o.op=.call ⟨.builtin .append,#[x,y],#[t,u]⟩) (hx:s.eval x=.pv (roomV b 0 n M)) (hH:s.H[i]?=some (some b,.blk N f)) (hN:M * k≤N)
  (hsrc:ASrc P G s y k m h) (h1:P.underlying t=some (.slice e)) (hu:notInt P u=true) (h5:(P.info? e).map (·.size)=some k) (hroom:n+m≤M)
  (F:Nat→CV) (hF:∀ j,j<(n+m) * k→CEnt (appF (n * k) f h j) (F j)) (hleaf:∀ j,j<m * k→leafC (h j)=true) (hd:dstOk G o=true)
  (hK:K (s.with o.dst (.pv (roomV b 0 (n+m) M)) (s.H.set i (some b,.blk N (topF ((n+m) * k) F))))):AMd P G o s K:=fun St a w hr Q=>by
 obtain ⟨info,hi,hs⟩:=Option.map_eq_some_iff.1 h5
 obtain ⟨news,hnl,hnr,hrun⟩:=hsrc St a w hr
 obtain ⟨cap,ev,hle,hcap⟩:=evR hr hx
 have hlen:(n+m) * k=n * k+m * k:=Nat.add_mul ..
 have hargs:(#[x,y]:Array Operand).map a.eval=#[a.eval x,a.eval y]:=by simp
 have put:∀ {w':World} {v:Value} {c:CV} {H:List (Option Nat×Res)},RelSt G St ⟨s.env,s.b,H⟩ a w'→RepC G.al St w' c v→RelSt G St (s.with o.dst c H) (a.put o.dst v) w':=fun {w' v c H} h1 h2=>by
  have:=h1.put (dst:=o.dst) (dst_of hd) h2
  cases ho:o.dst with
  | none=>rw [ho] at this;exact this
  | some d=>rw [ho] at this;exact this
 obtain ⟨fp,hp⟩:=id hr.hp
 obtain ⟨hb0,cur,ty,hh,hle2,hcell⟩:=hp.rep i (some b) _ hH
 have hfit2:n * k+news.length≤cur.size:=by
  rw [hnl,← hlen]
  exact Nat.le_trans (Nat.mul_le_mul_right _ hroom) (Nat.le_trans hN hle2)
 have hone:∀ v ∈ news,v.oneCell'=true:=fun v hv=>by
  obtain ⟨j,hj,e⟩:=List.mem_iff_getElem.1 hv
  have h2:=hnr j (by omega)
  rw [show news.getD j undef=v by simp [List.getD,hj,e]] at h2
  exact leaf_one (hleaf j (by omega)) h2
 have hst:=run_storeCells_at P b (n * k) ty news 0 cur w hh (by simpa using hfit2) hone
 simp only [Nat.add_zero] at hst
 have hrun':=run_app_room (t:=t) (u:=u) (ty:=o.type) h1 hu hi hs (hrun w rfl).1 (hrun w rfl).2 (Nat.le_trans hroom hle) (base:=some ⟨b,0,none⟩) (w':=w.setRow b (cur.toList.take (n * k)++news++cur.toList.drop (n * k+news.length)).toArray) (fun ad h=>by
  have h:=Option.some.inj h
  subst h
  rw [addr_add,Nat.zero_add]
  exact hst) (fun h=>by simp at h)
 unfold Oper.wp
 rw [exec_append ho (by rw [hargs,ev];exact hrun')]
 refine ⟨fun q hq=>setRow_other w b q _ (fun e=>(hp.own i b ((hb0 b).2 rfl)).2.1 (e ▸ hq)),St,fun _ h=>h,_,hK,?_⟩
 have hw:=hr.write hH hh (cs:=(cur.toList.take (n * k)++news++cur.toList.drop (n * k+news.length)).toArray) (by simp;omega) (n':=N) (f':=topF ((n+m) * k) F) (by simp;omega) (fun j hj=>by
  unfold topF
  by_cases hj2:j<(n+m) * k
  ·rw [if_pos hj2]
   refine hF j hj2 _ _ _ _ ?_
   have h9:j<n * k+news.length:=by rw [hnl,← hlen];exact hj2
   rw [row_at cur news (n * k) hfit2]
   unfold appF
   by_cases h3:j<n * k
   ·rw [if_pos h3,if_neg (by omega)];exact hcell j (by omega)
   ·rw [if_neg h3,if_pos (by omega)];exact hnr _ (by omega)
  ·rw [if_neg hj2];trivial)
 exact put hw ⟨cap,rfl,hle,hcap⟩
theorem m_clearP {e:TypeId} {z:Value} {i b off n k N M:Nat} {f:Nat→CV} (ho:o.op=.call ⟨.builtin .clear,#[x],#[t]⟩) (hx:(⟨env,b0,H⟩:AS).eval x=.pv (roomV b off n n)) (hH:H[i]?=some (some b,.blk N f)) (h1:P.underlying t=some (.slice e)) (h5:(P.info? e).map (·.size)=some k) (hz:(P.info? e).map (·.zero)=some (some z)) (hzk:z.cells.size=k) (hk:0<k) (hz1:z.cells.all (·.oneCell')=true)
  (hM:M≤off) (hN:off+n * k≤N) (hn:0<n) (hd:o.dst=none) (hK:K ⟨env,b0,H.set i (some b,.blk M f)⟩):AMd P G o ⟨env,b0,H⟩ K:=fun St a w hr Q=>by
 obtain ⟨info,hi,h6⟩:=Option.map_eq_some_iff.1 h5
 obtain ⟨info',hi',hz⟩:=Option.map_eq_some_iff.1 hz
 obtain rfl:=Option.some.inj (hi.symm.trans hi')
 obtain ⟨cap,e0,h3,h4⟩:=evR hr hx
 obtain ⟨fp,hp⟩:=id hr.hp
 obtain ⟨h00,cur,ty,hh,hle,hcell⟩:=hp.rep i (some b) _ hH
 have hlen:(Builtin.zeroCells z.cells n).toList.length=n * k:=by simp [Builtin.zeroCells,hzk]
 have hcap:off+n * k≤cur.size:=Nat.le_trans hN hle
 have hone:∀ v ∈ (Builtin.zeroCells z.cells n).toList,v.oneCell'=true:=fun v hv=>by
  have hv':v ∈ Builtin.zeroCells z.cells n:=by simpa using hv
  obtain ⟨j,hj,e⟩:=Array.mem_iff_getElem.1 hv'
  rw [← e]
  have hlt:j % z.cells.size<z.cells.size:=Nat.mod_lt _ (by omega)
  have:=Array.all_eq_true.1 hz1 (j % z.cells.size) hlt
  simpa [Builtin.zeroCells,hlt] using this
 have hst:=run_storeCells_at P b off ty (Builtin.zeroCells z.cells n).toList 0 cur w hh (by rw [hlen];omega) hone
 simp only [Nat.add_zero] at hst
 obtain ⟨m,rfl⟩:∃ m,n=m+1:=⟨n-1,by omega⟩
 have hrun:(execOp a.eval o).run P w=.ok (.value (.tuple #[])) (w.setRow b (cur.toList.take off++(Builtin.zeroCells z.cells (m+1)).toList++cur.toList.drop (off+(Builtin.zeroCells z.cells (m+1)).toList.length)).toArray):=exec_clear ho (by
  rw [e0]
  simp [Builtin.clear_,underlying,h1,zeroValue,typeInfo,hi,hz,hst])
 unfold Oper.wp
 rw [hrun]
 refine ⟨fun q hq=>setRow_other w b q _ (fun e=>(hp.own i b ((h00 b).2 rfl)).2.1 (e ▸ hq)),St,fun _ h=>h,_,hK,?_⟩
 rw [hd]
 refine hr.write hH hh ?_ ?_ fun j hj=>?_
 ·simp only [List.size_toArray,List.length_append,List.length_take,List.length_drop,Array.length_toList,hlen];omega
 ·simp only [List.size_toArray,List.length_append,List.length_take,List.length_drop,Array.length_toList,hlen];omega
 ·rw [row_at cur _ off (by rw [hlen];omega),if_neg (by omega)]
  exact hcell j (by omega)
theorem thawV (d:Nat) {i b n m N M:Nat} {F:Nat→CV} (f:Nat→Nat→CV) (hl:look s.env s.b d=.pv (roomV b 0 n M)) (hnM:n≤M) (hH:s.H[i]?=some (some b,.frz N F)) (hN:n * m≤N) (hf:∀ p q,p<n→q<m→CEnt (F (p * m+q)) (f p q)) :
  EntS G s ⟨(d,.rs m n f)::s.env,s.b,s.H⟩:=fun St a w hr=>by
 refine ⟨St,fun _ h=>h,hr.df,hr.sz,fun e=>?_,hr.un,hr.s1,hr.s2,hr.s3,hr.hp,hr.sn,hr.sg⟩
 by_cases hde:d=e
 ·subst hde
  have he:=hr.env d
  rw [hl] at he
  obtain ⟨cap,e0,h2,h3⟩:=he
  obtain ⟨fp,hp⟩:=hr.hp
  obtain ⟨_,hg,cur,t,z,hh,hle,hc⟩:=hp.rep i (some b) _ hH
  rw [look_same]
  refine ⟨_,cap,e0,by omega,h3,(fun h=>by cases h),fun ad ha hn=>?_⟩
  cases ha
  refine ⟨rfl,hg,fun p q hp' hq=>?_⟩
  have hb:p * m+q<n * m:=by
   have:p * m+m≤n * m:=by rw [← Nat.succ_mul];exact Nat.mul_le_mul_right _ hp'
   omega
  have hlt:p * m+q<cur.size:=by omega
  refine ⟨cur.getD (p * m+q) undef,?_,hf p q hp' hq _ _ _ _ (hc _ (by omega))⟩
  show w.cell? ⟨b,0+(p * m+q),none⟩=_
  rw [Nat.zero_add,cell_of_row w b _ cur t z hh];simp [hlt]
 ·have:=hr.env e
  show RepC _ _ _ (look ((d,.rs m n f)::s.env) s.b e) _
  rw [look_other _ _ _ hde]
  exact this
end
def sufV (b off m:Nat):SV where
 p:=fun _ _ x=>∃ o cap,x=.slice (some ⟨b,o,none⟩) m cap∧(0<m→o=off)
 st:=fun _ _ h=>h
 one:=fun ⟨o,cap,h,_⟩=>by subst h;exact ⟨rfl,rfl⟩
section
variable {P:Program} {G:Gh} {ops:Array Oper} {o:Oper} {s:AS} {r:List Oper} {K:AS→Prop} {t u:TypeId} {x y:Operand} {env:List (Nat×CV)} {b0:Nat→CV} {H:List (Option Nat×Res)}
theorem rd_suf {e:TypeId} {i b n k l:Nat} {lo:Operand} {k1:IntKind} {z:Int} (ho:o.op=.slice t x (some lo) none none) (hx:s.eval x=.os i (some b) 0 n k) (h1:P.underlying t=some (.slice e)) (h5:(P.info? e).map (·.size)=some k) (e1:s.eval lo=.c (.int k1 z)) (q1:z=(l:Nat)) (hl:l≤n):ARd P G o s (.pv (sufV b (l * k) (n-l))):=fun St a w hr=>by
 obtain ⟨info,hi',hs⟩:=Option.map_eq_some_iff.1 h5
 have v1:a.eval lo=.int k1 (l:Nat):=by have:=evR hr e1;rw [q1] at this;exact this
 obtain ⟨cap,e0,h2,h3,_⟩:=evR hr hx
 refine ⟨.slice (if cap=l then some ⟨b,0,none⟩ else some ⟨b,l * k,none⟩) (n-l) (cap-l),fun W _=>exec_slice ho ?_,?_⟩
 ·rw [e0]
  simp only [Option.map_some,Option.map_none,v1]
  simp [Instr.sliceAt,Instr.slice,underlying,h1,Instr.sliceBounds,Instr.sliceBound,asIntOf,sizeOf,typeInfo,hi',hs,hl]
  rw [addr_add,Nat.zero_add]
 ·by_cases h:cap=l
  ·rw [if_pos h];exact ⟨0,_,rfl,fun h0=>by omega⟩
  ·rw [if_neg h];exact ⟨l * k,_,rfl,fun _=>rfl⟩
theorem src_suf {i b off k m N:Nat} {F:Nat→CV} (hy:s.eval y=.pv (sufV b off m)) (hH:Holds s i (some b) N F) (hN:off+m * k≤N):ASrc P G s y k m fun j=>F (off+j):=fun St a w h=>by
 obtain ⟨q,cap,e,hq⟩:=evR h hy
 rw [e]
 obtain ⟨hg,cur,ty,z,hh,hle,hc⟩:=holdCells h hH
 rcases Nat.eq_zero_or_pos m with h0|h0
 ·subst h0
  exact src_cells (g:=fun _=>undef) fun j hj=>absurd hj (by simp)
 ·have hq:=hq h0
  subst hq
  refine src_cells (g:=fun j=>cur.getD (q+j) undef) fun j hj=>⟨?_,hc _ (by omega)⟩
  have hlt:q+j<cur.size:=by omega
  rw [cell_of_row w b _ cur ty z hh];simp [hlt]
theorem jmapIn {e:TypeId} {i b n m k M N d:Nat} {f h:Nat→CV} (F:Nat→CV) (hsrc:ASrc P G ⟨env,b0,H⟩ y k m h) (hroom:n+m≤M) (hN:M * k≤N) (hF:∀ j,j<(n+m) * k→CEnt (appF (n * k) f h j) (F j)) (hleaf:∀ j,j<m * k→leafC (h j)=true) (h1:P.underlying t=some (.slice e)) (hu:notInt P u=true) (h5:(P.info? e).map (·.size)=some k)
  (hK:K ⟨(d,.pv (roomV b 0 (n+m) M))::env,b0,H.set i (some b,.blk N (topF ((n+m) * k) F))⟩) (ho:o.op=.call ⟨.builtin .append,#[x,y],#[t,u]⟩:=by exact rfl) (hx:(⟨env,b0,H⟩:AS).eval x=.pv (roomV b 0 n M):=by exact rfl) (hH:H[i]?=some (some b,.blk N f):=by exact rfl) (hd:o.dst=some d:=by exact rfl) (hN':Nat.blt d G.N=true:=by exact rfl):AMd P G o ⟨env,b0,H⟩ K :=
 md_appIn ho hx hH hN hsrc h1 hu h5 hroom F hF hleaf (dst_s hd hN') (by rw [with_some hd];exact hK)
end
theorem know_osZ {G:Gh} {s:AS} (d:Nat) {i off n m:Nat} {g:Option Nat} (hl:look s.env s.b d=.os i g off n m):∀ a w,Rel G s a w→g=none→n=0:=fun a w ⟨St,hr⟩ hg=>by
 have:=evR hr (x:=.tmp d) hl
 subst hg
 exact this.1
end
section
open Go.RowKit Cal
theorem ins13z_ac {gs:List Nat} (g:Option Nat) (l:List N4) (a b:Nat) (hb:b≤a+1) (ha:a≤1000):AC gs Tryz.prog 112 [ownA g l] [.os 0 g 0 l.length 4,.c (.int .i64 (a:Nat)),.c (.int .i64 (b:Nat)),genV] (fun r H'=>r=.c (.tuple #[])∧H'=[ownA g l]):=by
 refine jF5 2051916 53 Tryz.func112 fun al w0 F0 St0=>?_
 refine jlp (α:=Nat) [8,9,12,52] (fun i=>[(8,.c (.int .i64 (i:Nat)))]) (fun i=>[(g,.blk (l.length * 4) (asF l))]) (fun i=>i=a+1) (fun i=>0) (a+1) (h0:=?_) (hr:=?_)
 ·rfl
 rintro i (hi:i=a+1)
 refine jU 521167 ?_;refine jF3 0 4000200020006000 (fun h11=>?_) fun h11=>?_
 ·exfalso;omega
 exact jnh
def resS (r:Nat) (l:List N4):List N4:=if r=0 then sortA l else stA l 20
theorem insR_ac {gs:List Nat} (g:Option Nat) (l:List N4) (r:Nat) (hr:r≤1) (h1:20 * r≤l.length) (h2:l.length≤21):AC gs Tryz.prog 112 [ownA g (stA l (20 * r))] [.os 0 g 0 l.length 4,.c (.int .i64 (20 * r:Nat)),.c (.int .i64 (l.length:Nat)),genV] (fun x H'=>x=.c (.tuple #[])∧H'=[ownA g (resS r l)]):=by
 rcases (show r=0∨r=1 by omega) with rfl|rfl
 ·have h:=ins13_ac (gs:=gs) g l l.length (Nat.le_refl _) (by omega)
  rw [stA_all] at h
  exact h
 ·have h:=ins13z_ac (gs:=gs) g (stA l 20) 20 l.length (by omega) (by decide)
  rw [stA_len (show 20≤l.length by omega)] at h
  exact h
theorem resS_len {r:Nat} {l:List N4} (h1:20 * r≤l.length) (hr:r≤1):(resS r l).length=l.length:=by
 unfold resS
 split
 ·exact sortA_len l
 ·exact stA_len (by omega)
theorem resS_all {r:Nat} {l:List N4} (h1:20 * r≤l.length) (hr:r≤1) (h:l.length≤20):resS r l=sortA l:=by
 unfold resS
 split
 ·rfl
 ·rw [← stA_all,show l.length=20 by omega]
set_option maxHeartbeats 2000000 in
theorem stable13_ac {gs:List Nat} (g:Option Nat) (l:List N4) (hl:l.length≤21):AC gs Tryz.prog 71 [ownA g l] [.os 0 g 0 l.length 4,.c (.int .i64 (l.length:Nat)),genV] (fun r H'=>r=.c (.tuple #[])∧∃ l',H'=[ownA g l']∧l'.length=l.length∧(l.length≤20→l'=sortA l)):=by
 refine jF5 20751116516 63 Tryz.func71 fun al w0 F0 St0=>?_
 refine jlp (α:=Nat) [7,8,11,22] (fun r=>[(7,.c (.int .i64 (20 * r:Nat))),(8,.c (.int .i64 (20 * r+20:Nat)))]) (fun r=>[(g,.blk (l.length * 4) (asF (stA l (20 * r))))]) (fun r=>r≤1∧20 * r≤l.length) (fun r=>2-r) 0 (h0:=⟨Nat.zero_le _,Nat.zero_le _⟩) (hr:=?_)
 rintro r ⟨(hr:r≤1),(hr2:20 * r≤l.length)⟩
 refine jU 521167 ?_;refine jF3 20810 84000200020006000 (fun h338=>?_) fun h338=>?_
 ·have hr0:r=0:=by omega
  subst hr0
  have hi20:=ins13_ac (gs:=gs) g l 20 (by omega) (by omega)
  have hi20:AC gs Tryz.prog 112 [(g,.blk (l.length * 4) (asF (stA l (20 * 0))))] [.os 0 g 0 l.length 4,.c (.int .i64 (20 * 0:Nat)),.c (.int .i64 (20 * 0+20:Nat)),genV] (fun r H'=>r=.c (.tuple #[])∧H'=[(g,.blk (l.length * 4) (asF (stA l 20)))]):=by
   unfold ownA at hi20
   rw [stA_len (show 20≤l.length by omega)] at hi20
   exact hi20
  refine jU 11116 ?_;refine jF2 84005191120051165 0 hi20 ?_
  refine jlend 1 (h2:=?_) (h7:=by exact .blk rfl (fun j hj=>cZ) .nil)
  ·show 2-1<2-0;decide
 have hR:=insR_ac (gs:=gs) g l r hr hr2 hl
 have hRl:=resS_len hr2 hr
 have hRa:=resS_all hr2 hr
 unfold ownA at hR
 rw [stA_len hr2,hRl] at hR
 generalize resS r l=Y at *
 refine jU 11116 ?_;refine jF2 205 0 hR ?_
 refine jlp (α:=Nat×List N4) [6,9,28,62] (fun (q,X)=>[(6,.c (.int .i64 (20 * (q+1):Nat)))]) (fun (q,X)=>[(g,.blk (l.length * 4) (asF X))]) (fun (q,X)=>q≤1∧X.length=l.length∧(l.length≤20→X=sortA l)) (fun (q,_)=>2-q) (0,Y) (h0:=⟨Nat.zero_le _,hRl,hRa⟩) (hr:=?_)
 rintro ⟨q,X⟩ ⟨(hq:q≤1),(hX:X.length=l.length),hXa⟩
 refine jU 521167 ?_;refine jF3 20751191620810 4000200020006000 (fun h345=>?_) fun h345=>?_
 rotate_left
 ·exact end_own (.inr rfl) _ [_] [0] (by decide) rfl (res_0 rfl) ⟨rfl,X,by unfold ownA;rw [hX];rfl,hX,hXa⟩
 have hq0:q=0:=by omega
 subst hq0
 have hS:=sym13_ac (gs:=gs) g X (by omega)
 unfold ownA at hS
 rw [hX] at hS
 refine jlp (α:=Unit) [7,8,33,48] (fun _=>[(7,.c (.int .i64 0)),(8,.c (.int .i64 40))]) (fun _=>[(g,.blk (l.length * 4) (asF X))]) (fun _=>True) (fun _=>0) () (hr:=?_)
 rintro u _
 refine jU 521167 ?_;refine jF3 0 52116519116784000200020006000 (fun h347=>?_) fun h347=>?_
 ·exfalso;omega
 refine jF3 11111200 0 (fun h352=>?_) fun h352=>?_
 rotate_left
 ·exfalso;omega
 refine jqm (jmcH 0 hS ?_)
 rintro _ _ ⟨rfl,X',rfl,hX'⟩;refine ⟨(g,.blk (l.length * 4) (asF X')),_,(by rw [hX']),cZ,?_⟩
 refine jU 8400519120085 ?_
 refine jlend (1,X') (h1:=⟨by omega,hX',fun h=>absurd h (by omega)⟩) (h2:=?_)
 ·show 2-1<2-0;decide
theorem sort13_ac {gs:List Nat} (g:Option Nat) (l:List N4) (hl:l.length≤21):AC gs Tryz.prog 32 [ownA g l] [.os 0 g 0 l.length 4,genV] (fun r H'=>r=.c (.tuple #[])∧∃ l',H'=[ownA g l']∧l'.length=l.length∧(l.length≤20→l'=sortA l)):=by
 refine jF5 1311200 9 Tryz.func32 fun al w0 F0 St0=>?_
 refine jqm (jmcH 0 (stable13_ac g l hl) ?_)
 rintro _ _ ⟨rfl,X,rfl,hX,hXa⟩;refine ⟨_,_,rfl,cZ,?_⟩
 refine jU 5 ?_
 exact end_own (.inr rfl) _ [_] [0] (by decide) rfl (res_0 rfl) ⟨rfl,X,rfl,hX,hXa⟩
theorem era_get {l:List N4} {i j:Nat}:(l.eraseIdx i).getD j a00=if j<i then l.getD j a00 else l.getD (j+1) a00:=by
 rw [List.getD_eq_getElem?_getD,List.getElem?_eraseIdx]
 split <;> rw [List.getD_eq_getElem?_getD]
theorem era_cells {l:List N4} {i:Nat} (hi:i<l.length) (j:Nat):appF (i * 4) (asF l) (fun j=>asF l ((i+1) * 4+j)) j=asF (l.eraseIdx i) j:=by
 obtain ⟨q,r,hr,rfl⟩:∃ q r,r<4∧j=q * 4+r:=⟨j / 4,j % 4,Nat.mod_lt _ (by decide),by omega⟩
 have e:asF (l.eraseIdx i) (q * 4+r)=anF ((l.eraseIdx i).getD q a00) r:=rowF_at hr
 rw [e,era_get]
 unfold appF
 by_cases h:q<i
 ·rw [if_pos (by omega),if_pos h]
  exact rowF_at hr
 ·rw [if_neg (by omega),if_neg h]
  show asF l ((i+1) * 4+(q * 4+r-i * 4))=_
  rw [show (i+1) * 4+(q * 4+r-i * 4)=(q+1) * 4+r by omega]
  exact rowF_at hr
set_option maxHeartbeats 2000000 in
theorem adel_ac {gs:List Nat} (g:Option Nat) (l:List N4) (i:Nat) (hi:i<l.length) (hl:l.length≤1000):AC gs Tryz.prog 39 [ownA g l] [.os 0 g 0 l.length 4,.c (.int .i64 (i:Nat)),.c (.int .i64 ((i:Nat)+1))] (fun r H'=>r=asC (l.eraseIdx i)∧∃ x,H'=[x]):=by
 have hel:(l.eraseIdx i).length=l.length-1:=by rw [List.length_eraseIdx,if_pos hi]
 refine jF5 516 33 Tryz.func39 fun al w0 F0 St0=>?_;refine code_knowG (know_osZ 0 rfl) fun hgn=>?_
 obtain ⟨b,rfl⟩:∃ b,g=some b:=by
  cases g with
  | none=>exact absurd (hgn rfl) (by omega)
  | some b=>exact ⟨b,rfl⟩
 refine jU 311116 ?_;refine jq ((rd_slice3 (l:=i) (h:=i+1) (m:=l.length) rfl rfl Tryz.underlying22 sz33 rfl rfl rfl rfl (by omega) rfl (by omega) (by omega) (Nat.le_refl _))) ?_;refine jU 5211675 ?_;refine jF3 0 751316810 (fun h227=>?_) fun h227=>?_
 ·exfalso;omega
 refine jcdB 6 (oN 0 6) ?_;refine jU 7070 ?_;refine jyq ((rd_pre (v:=i) rfl rfl Tryz.underlying22 sz33 rfl rfl (by omega) (by omega))) ?_;refine jU 7070 ?_;refine jyq ((rd_suf (l:=i+1) rfl rfl Tryz.underlying22 sz33 rfl (by omega) (by omega))) ?_;refine jyd ?_
 show ASeq _ _ _ _ _ _
 refine jqm (jmapIn (i:=0) (b:=b) (n:=i) (m:=l.length-(i+1)) (M:=l.length) (N:=l.length * 4) (k:=4) (asF (l.eraseIdx i)) (src_suf (i:=0) (b:=b) (F:=asF l) (off:=(i+1) * 4) (N:=l.length * 4) rfl (.inl rfl) (by omega)) (by omega) (Nat.le_refl _) (fun j _=>CEnt.of_eq (era_cells hi j)) (fun j hj=>leaf_a _ (Nat.mod_lt _ (by decide))) Tryz.underlying22 nu22 sz33 ?_)
 refine jU 116851 ?_;refine jq ((rd_lenP rfl rfl Tryz.underlying22)) ?_;refine jU 1 ?_;refine jq ((rd_past (l:=l.length-1) (v:=l.length) rfl rfl Tryz.underlying22 sz33 rfl rfl (by omega) rfl (by omega) (Nat.le_refl _))) ?_
 refine jqm (m_clearP (i:=0) (M:=(l.length-1) * 4) rfl rfl rfl Tryz.underlying22 sz33 zr33 rfl (by decide) (by first|(simp [Value.cells];done)|(simp [Value.cells,Value.oneCell'];done)|(simp [Value.cells];exact ⟨rfl,rfl,rfl,rfl⟩)) (Nat.le_refl _) (by omega) (by omega) rfl ?_)
 refine jU 5 ?_;refine jE (freeze 0 rfl) ?_;refine jE (thawV 0 (i:=0) (b:=b) (m:=4) (M:=l.length) (N:=(l.length-1) * 4) (F:=topF ((i+(l.length-(i+1))) * 4) (asF (l.eraseIdx i))) (fun p q=>anF ((l.eraseIdx i).getD p a00) q) rfl (by omega) rfl (by omega) (fun p q hp hq=>by unfold topF;rw [if_pos (by omega)];exact CEnt.of_eq (rowF_at hq))) ?_;refine jU 70005116 ?_
 exact end_ownV (.inl rfl) [0] (by decide) rfl (res_1 rfl (arv_tmp rfl)) (m:=asC (l.eraseIdx i)) (CEnt.of_eq (by unfold asC;rw [hel,show i+(l.length-(i+1))=l.length-1 by omega];rfl)) ⟨rfl,_,rfl⟩
end
section
open Go.RowKit Cal
def nextB (b:B3) (l:List N4):B3×Nat:=if 1099511627776≤b.1 then (b00,4) else if rightB (b.1+1,b.2.1,l)=true then ((b.1+1,b.2.1,l),0) else (b00,4)
def hitA (a x:N4):Bool:=decide (x.1=a.1) || decide (x.2.1=a.2.1)
def withB (b:B3) (a:N4):B3×Nat:=if b.2.2.any (hitA a)=true then (b00,19) else nextB b (sortA (b.2.2++[a]))
def isG (g:Int) (x:N4):Bool:=decide (x.1=g)
def outB (b:B3) (g:Int):B3×Nat:=if firstI (isG g) b.2.2<0 then (b00,18) else nextB b (b.2.2.eraseIdx (firstI (isG g) b.2.2).toNat)
def isKG (key:List UInt8) (g:Int) (x:N4):Bool:=decide (x.2.1=key) && decide (x.1=g)
def findB (b:B3) (key:List UInt8) (g:Int):N4×Bool:=if firstI (isKG key g) b.2.2<0 then (a00,false) else (b.2.2.getD (firstI (isKG key g) b.2.2).toNat a00,true)
section
variable {gs:List Nat} [OkG gs]
set_option maxHeartbeats 1000000 in
theorem bnext_ac (b:B3) (l:List N4) (hv:-9223372036854775808≤b.1):ACp gs Tryz.prog 34 [bnC b,asC l] (.tup 2 (fl [bnC (nextB b l).1,.err (nextB b l).2])):=by
 refine ac_oF 25 Tryz.func34 fun al w0 F0 St0=>?_;refine jcr ?_
 refine jqe (jebx 3 fun p1=>?_)
 refine jqe (jeal (n:=3) zr24 rfl fun p2=>?_)
 refine jU 751 ?_;refine jE (blk_ent 0 (m:=3) (F:=bnF b) rfl (by decide) (fun _=>rfl) (fun j hj=>CEnt.of_eq (fl_map _ hj))) ?_;refine jU 5250906 ?_;refine jF3 0 150100950906810 (fun h125=>?_) fun h125=>?_
 ·refine jcs ?_;refine jcdZ (oT [0,2,5,6] .done) ?_;refine jzq (rd_build (n:=3) rfl zr24 pl24 rfl rfl) ?_;refine jzq (jrde 3) ?_
  refine jzm (jmst 3 ?_)
  refine jU 8700000400000 ?_
  refine jR (jtr (jrt (hres:=res_2 rfl (javA 3) javt) (hv:=?_)))
  rw [show nextB b l=(b00,4) by unfold nextB;rw [if_pos (by omega)]]
  exact cT jag (CEnt.errN rfl)
 refine jq (rd_build (n:=3) rfl zr24 pl24 rfl rfl) ?_
 refine jqe (jeal (n:=3) zr24 rfl fun p3=>?_)
 refine jqm (jmstF 3 (bnF (b.1+1,b.2.1,l)) ?_ ?_)
 ·exact jal
 refine jU 675 ?_;refine jqo (jrdoA 3) ?_;refine jF1 530 (bright_ac (b.1+1,b.2.1,l)) ?_;refine jF3 0 6810 (fun h129=>?_) fun h129=>?_
 rotate_left
 ·refine jqo (jrdoA 3) ?_;refine jF7 51 3 ?_
  refine jR (jrt (hres:=res_2 rfl (javA 3) javt) (hv:=?_))
  rw [show nextB b l=((b.1+1,b.2.1,l),0) by unfold nextB;rw [if_neg (by omega),if_pos (by simp_all)]]
  exact cT jag CEnt.nil
 refine jcs ?_;refine jcdZ (oT [0,2,5,6] .done) ?_;refine jzq (rd_build (n:=3) rfl zr24 pl24 rfl rfl) ?_;refine jzq (jrde 3) ?_
 refine jzm (jmst 3 ?_)
 refine jU 8700000400000 ?_
 refine jR (jtr (jrt (hres:=res_2 rfl (javA 3) javt) (hv:=?_)))
 rw [show nextB b l=(b00,4) by unfold nextB;rw [if_neg (by omega),if_neg (by simp_all)]]
 exact cT jag (CEnt.errN rfl)
theorem out1_ac {gs:List Nat} (g:Int) (x:N4):ACp gs Tryz.prog 38 (anC x::(List.range 1).map (fl [.rp 1 fun _=>.c (.int .i64 g)])) (.c (.bool (isG g x))):=by
 refine ac_oF 8 Tryz.func38 fun al w0 F0 St0=>?_;refine jcr ?_
 refine jqe (jebx 4 fun p1=>?_)
 refine jU 512605090651 ?_
 refine jR (jrt (hv:=cZ))
set_option maxHeartbeats 2000000 in
theorem out_ac (b:B3) (g:Int) (hv:-9223372036854775808≤b.1) (hl:b.2.2.length≤20):ACp gs Tryz.prog 12 [bnC b,.c (.int .i64 g)] (.tup 2 (fl [bnC (outB b g).1,.err (outB b g).2])):=by
 have hbd:=firstI_bd (isG g) b.2.2
 refine ac_oF 26 Tryz.func12 fun al w0 F0 St0=>?_;refine jcr ?_
 refine jqe (jebx 3 fun p1=>?_)
 refine jqe (jebx 1 fun p2=>?_)
 refine jqe (jeal (n:=3) zr24 rfl fun p3=>?_)
 refine jU 51 ?_;refine jE (blk_ent 0 (m:=3) (F:=bnF b) rfl (by decide) (fun _=>rfl) (fun j hj=>CEnt.of_eq (fl_map _ hj))) ?_;refine jE (blk_ent 1 (m:=1) (F:=fun _=>.c (.int .i64 g)) rfl (by decide) (fun _=>rfl) (fun j hj=>by rcases j with _|j <;> first|exact cZ|omega)) ?_;refine jE (freeze 1 rfl) ?_;refine jE (thawP 3 (m:=1) rfl rfl (by decide)) ?_;refine jU 5010006 ?_;refine jq jrmf ?_
 refine jqe (jecP (ancidx_ac (n:=1) (fv:=fl [.rp 1 fun _=>.c (.int .i64 g)]) (by kernel_rfl) b.2.2 (isG g) (fun r=>out1_ac g r)) ?_ (ho:=rfl) (he:=(.cons (se rfl cZ) (.cons (se rfl (CEnt.fn1 (CEnt.rp jal))) .nil))))
 refine jU 5216751 ?_;refine jF3 0 7810 (fun h148=>?_) fun h148=>?_
 ·refine jcs ?_;refine jcdZ (oT [0,2,5,6] .done) ?_;refine jzq (rd_build (n:=3) rfl zr24 pl24 rfl rfl) ?_;refine jzq (jrde 17) ?_
  refine jzm (jmst 3 ?_)
  refine jU 8700000400000 ?_
  refine jR (jtr (jrt (hres:=res_2 rfl (javA 3) javt) (hv:=?_)))
  rw [show outB b g=(b00,18) by unfold outB;rw [if_pos (by omega)]]
  exact cT jag (CEnt.errN rfl)
 obtain ⟨i,hi⟩:∃ i:Nat,firstI (isG g) b.2.2=(i:Nat):=⟨(firstI (isG g) b.2.2).toNat,by omega⟩
 have hil:i<b.2.2.length:=by omega
 have hnx:nextB b (b.2.2.eraseIdx i)=outB b g:=by
  unfold outB
  rw [if_neg (by omega),hi]
  rfl
 refine jE (weaken 6 (.c (.int .i64 (i:Nat))) (cI hi)) ?_;refine jE (freeze 0 rfl) ?_;refine jE (thawP 2 (m:=3) rfl rfl (by decide)) ?_;refine jcdZ (oT [0,2,4,8,10,12,7,15,17,18,20,23,24] .done) ?_;refine jzq (jrdrA 3) ?_;refine jzq (jrfa 2 1 false) ?_;refine jzq jrdr ?_;refine jU 400000400000 ?_;refine jzq jra ?_
 refine jze (jecO (acl_ac b.2.2 (by omega)) (fun p4=>?_))
 refine jzm (jmcH 3 (adel_ac _ b.2.2 i hil (by omega)) ?_)
 rintro _ _ ⟨rfl,x,rfl⟩;refine ⟨_,_,rfl,cZ,?_⟩
 refine jze (jecP (bnext_ac b (b.2.2.eraseIdx i) hv) ?_)
 refine jzq jrx ?_;refine jzq jrx ?_
 refine jzm (jmstF 3 (bnF (nextB b (b.2.2.eraseIdx i)).1) ?_ ?_)
 ·exact jal
 refine jU 8700000400000 ?_
 refine jR (jrt (hres:=res_2 rfl (javA 3) javt) (hv:=?_))
 rw [← hnx]
 exact cT jag cZ
end
end
section
open Go.RowKit Cal
theorem nil_push {G:Gh} {s:AS} (f:Nat→CV):EntS G s ⟨s.env,s.b,s.H++[(none,.blk 0 f)]⟩:=fun St a w hr=>by
 refine ⟨St,fun _ h=>h,hr.df,hr.sz,hr.env,hr.un,hr.s1,hr.s2,hr.s3,?_,hr.sn,hr.sg⟩
 obtain ⟨fp,hp⟩:=hr.hp
 refine ⟨fp,fun j g r hj=>?_,hp.dis,hp.own,fun j hj=>hp.out j (by simp at hj;omega)⟩
 rcases Nat.lt_or_ge j s.H.length with h1|h1
 ·rw [List.getElem?_append_left h1] at hj;exact hp.rep j g r hj
 ·rw [List.getElem?_append_right h1] at hj
  have h2:=(List.getElem?_eq_some_iff.1 hj).1
  simp at h2
  have h3:j=s.H.length:=by omega
  subst h3
  simp at hj
  obtain ⟨rfl,rfl⟩:=hj
  exact ⟨rfl,fun b hb=>hp.out _ (Nat.le_refl _) b hb⟩
theorem CEnt.nilOS {i k off:Nat}:CEnt (.c (.slice none 0 0)) (.os i none off 0 k):=fun _ _ _ _ h=>⟨rfl,h⟩
theorem a_next {l:List N4} {i:Nat} (hi:i<l.length):l.take (i+1)=l.take i++[l.getD i a00]:=by
 rw [List.take_succ_eq_append_getElem hi];simp [List.getD,hi]
set_option maxHeartbeats 2000000 in
theorem of13_ac {gs:List Nat} (b:B3) (hl:b.2.2.length≤1000000):ACp gs Tryz.prog 9 [bnC b] (bnC b):=by
 refine ac_oF 26 Tryz.func9 fun al w0 F0 St0=>?_;refine jcr ?_
 refine jqe (jebx 3 fun p1=>?_)
 refine jqe (jeal (n:=3) zr30 rfl fun p2=>?_)
 refine jU 5 ?_;refine jE (blk_ent 0 (m:=3) (F:=bnF b) rfl (by decide) (fun _=>rfl) (fun j hj=>CEnt.of_eq (fl_map _ hj))) ?_;refine jE (blk_ent 1 (m:=3) (F:=bnF b00) rfl (by decide) (fun _=>rfl) (fun j hj=>by rcases j with _|_|_|j <;> first|exact cZ|exact CEnt.nilS' rfl|omega)) ?_;refine jU 5010050906 ?_;refine jq (rd_build (n:=3) rfl zr30 pl30 rfl rfl) ?_
 refine jqe (jeal (n:=3) zr30 rfl fun p3=>?_)
 refine jqm (jmstF 3 (fl [.c (.int .i64 b.1),strC b.2.1,.c (.slice none 0 0)]) ?_ ?_)
 ·exact jal
 refine jU 20513501000675 ?_;refine jE (nil_push (asF [])) ?_
 refine jlp (α:=Nat×Option Nat) [5,5,14,24] (fun (i,g)=>[(14,.c (.int .i64 (i:Nat)))]) (fun (i,g)=>[(p1,.blk 3 (bnF b)),(p2,.blk 3 (bnF b00)),(p3,.blk 3 (fl [.c (.int .i64 b.1),strC b.2.1,.os 3 g 0 (b.2.2.take i).length 4])),ownA g (b.2.2.take i)]) (fun p=>p.1≤b.2.2.length) (fun p=>b.2.2.length-p.1) (0,none) (hH:=.same (.same (.blk rfl (fun j hj=>by rcases j with _|_|_|j <;> first|exact cZ|exact CEnt.nilOS) (.same .nil)))) (hr:=?_)
 rintro ⟨i,g⟩ (hi:i≤b.2.2.length)
 have hil:(b.2.2.take i).length=i:=by rw [List.length_take];omega
 refine jU 7526 ?_;refine jF3 7006207810 84000200020006000 (fun h21=>?_) fun h21=>?_
 rotate_left
 ·have hie:i=b.2.2.length:=by omega
  refine jE (freeze 3 rfl) ?_;refine jE (thawC 2 2 3 (bnF b) (fun p q=>anF (b.2.2.getD p a00) q) rfl rfl cZ (CEnt.rsL (by rw [hie,List.take_length]) rfl) (fun j hj h0=>by rcases j with _|_|_|j <;> first|exact cZ|omega) (by omega) (fun p q hp hq=>CEnt.of_eq (by rw [hie,List.take_length,Nat.zero_add];exact rowF_at hq))) ?_;refine jcr ?_;refine jqo (jrdoA 3) ?_
  refine jqm (jmstF 3 (bnF b) ?_ ?_)
  ·exact jal
  refine jU 5 ?_
  refine jR (jrt (hres:=res_1 rfl (javA 3)) (hv:=jag))
 refine jq (jrdrA 4) ?_
 refine jqe (jeal (n:=4) zr33 rfl fun p4=>?_)
 refine jqm (jmstF 4 (anF (b.2.2.getD i a00)) ?_ ?_)
 ·exact jal
 refine jU 5010002005 ?_;refine jqo (jrdoA 4) ?_
 refine jqe (jebl 4 4 zr42 fun p5=>?_)
 refine jqm (jac 40 (rowC_row 4 anF a00) (l:=b.2.2.take i) (l2:=[b.2.2.getD i a00]) fun p6=>?_)
 refine jU 1000 ?_
 refine jqm (jmstF 1 (fl [.c (.int .i64 b.1),strC b.2.1,.os 3 p6 0 (b.2.2.take i++[b.2.2.getD i a00]).length 4]) ?_ ?_)
 ·exact jal
 refine jU 851920084005 ?_
 refine jlend (i+1,p6) (h7:=?_)
 ·show HEnt _ [(p1,.blk 3 (bnF b)),(p2,.blk 3 (bnF b00)),(p3,.blk 3 (fl [.c (.int .i64 b.1),strC b.2.1,.os 3 p6 0 (b.2.2.take (i+1)).length 4])),ownA p6 (b.2.2.take (i+1))]
  rw [a_next (by omega)]
  exact HEnt.refl _
def long13 (b:B3):Bool:=decide (100<b.2.1.length) || decide (20<b.2.2.length) || b.2.2.any fun x=>decide (100<x.2.1.length)
end
section
open Go.RowKit Cal
def exA:N4:=(1,[48,48,48,48,48,48,48,48,48,48,48,48,48,48,48,48,48,48,48,48,48,48,48,48,48,48,48,48,48,48,48,48],0,5)
def exN:B3:=(1,[97],[exA])
theorem exN_out:(outB exN 1).2=4:=by kernel_rfl
theorem exN_ok:rightB exN=true:=by kernel_rfl
theorem asF_one (a:N4) {q:Nat} (hq:q<4):asF [a] q=anF a q:=by
 have:asF [a] (0 * 4+q)=anF ([a].getD 0 a00) q:=rowF_at hq
 rwa [Nat.zero_mul,Nat.zero_add] at this
theorem exN_cells (p q:Nat) (hp:p<1) (hq:q<4):CEnt (asF [exA] (0+(p * 4+q))) (anF (exN.2.2.getD p a00) q):=by
 obtain rfl:p=0:=by omega
 rw [Nat.zero_mul,Nat.zero_add,Nat.zero_add]
 exact CEnt.of_eq (asF_one _ hq)
theorem ordA_one (a:N4):ordA [a]=[a]:=by unfold ordA;simp
theorem exN_len:20<(bunB exN).length:=by
 unfold bunB bs1 bs2 bs3
 rw [show exN.2.2=[exA] from rfl,ordA_one]
 refine of_decide_eq_true ?_
 kernel_rfl
section
variable {gs:List Nat} [OkG gs] [OkT gs]
set_option maxHeartbeats 1000000 in
theorem alive13_ac:ACp gs Tryz.prog 7 [] (.c (.bool true)):=by
 have hb:=bytes13_ac (gs:=gs) exN
 rw [exN_ok,if_pos rfl,if_pos rfl] at hb
 have ho:=out_ac (gs:=gs) exN 1 (by decide) (by decide)
 rw [exN_out] at ho
 have hlen:=exN_len
 generalize bunB exN=W at *
 generalize (outB exN 1).1=Z at *
 refine jF5 6516 31 Tryz.func7 fun al w0 F0 St0=>?_;refine jq (rd_build (n:=4) rfl zr33 pl33 rfl rfl) ?_
 refine jqe (jebl 4 4 zr33 fun p1=>?_)
 refine jq (rd_build (n:=3) rfl zr24 pl24 rfl rfl) ?_
 refine jqe (jeal (n:=3) zr24 rfl fun p2=>?_)
 refine jqm (jmstF 3 (fl [.c (.int .i64 1),strC [97],.os 0 p1 0 1 4]) ?_ ?_)
 ·exact jal
 refine jU 5 ?_;refine jE (weakH 0 4 (asF [exA]) rfl (Nat.le_refl _) (fun j hj=>by rcases j with _|_|_|_|j <;> first|exact cZ|omega)) ?_;refine jE (freeze 0 rfl) ?_;refine jE (thawC 1 2 0 (bnF exN) (fun p q=>anF (exN.2.2.getD p a00) q) rfl rfl cZ cZ (fun j hj h0=>by rcases j with _|_|_|j <;> first|exact cZ|omega) (by decide) exN_cells) ?_;refine jcr ?_;refine jqo (jrdoA 3) ?_;refine jF1 9009001 ho ?_
 refine jqe (jeal (n:=3) zr24 rfl fun p3=>?_)
 refine jqm (jmstF 3 (bnF Z) ?_ ?_)
 ·exact jal
 refine jU 651 ?_;refine jqo (jrdoA 3) ?_;refine jF1 165119009001 hb ?_;refine jF1 12 (num_ac 4 (by decide)) ?_;refine jF4 11000000005000001 8000700051500444150044 22 (fun g15=>?_) fun g15=>?_
 rotate_left
 ·refine cB ?_
  (simp_all;done)
 refine jF4 8000700051100000000231 8000700051500444 26 (fun g15_2=>?_) fun g15_2=>?_
 ·refine cB ?_
  (exact decide_eq_true (by omega))
 refine cB ?_
 (simp_all;done)
end
end
section
open Go.RowKit Cal
section
variable {gs:List Nat} [Ok9 gs]
end
def PR (gs:List Nat) (f:FuncId) (l:List (List UInt8)) (args:List CV) (r:CV) (l':List (List UInt8)):Prop:=∀ n,AC gs Tryz.prog f [rdO n l 0] (.op 0 (some n) 0::args) (fun x H'=>x=r∧H'=[rdO n l' 0])
section
variable {gs:List Nat} [OkG gs] [OkT gs] {c:C11}
end
end
section
open Go.RowKit Cal
section
variable {gs:List Nat} [OkG gs] [OkT gs]
end
end
end Am
end Go.Proofs.YtnijncmifjnifaaGreatDoor
