/- What the law leans on, part 12: AmQ, W02c, W11a, W11r, W05r, P08k, P19b, P19c, W08q, W08r, W08s, W08t, W05i, W08s7, W09u, W19a, W19b, W19c, W11w, W11g, W11h, W08s9 -/
import Derived.Test.YthlpfjnkieaeeaaGreatDoorM11CertBody

set_option maxRecDepth 100000
namespace Go.Proofs.YthlpfjnkieaeeaaGreatDoor
set_option linter.unusedVariables false
namespace Am
open Go.RowKit
section
section
variable {P:Program} {G:Gh} {ops:Array Oper} {o:Oper} {s:AS} {K:AS→Prop} {t u:TypeId} {x y:Operand} {env:List (Nat×CV)} {b0:Nat→CV} {H:List (Option Nat×Res)}
theorem exec_copy {xs:Array Operand} {ats:Array TypeId} (ho:o.op=.call ⟨.builtin .copy,xs,ats⟩) {a:Act} {v:Value} {w w':World} (h:(Builtin.copy_ ats o.type (xs.map a.eval)).run P w=.ok v w'):(execOp a.eval o).run P w=.ok (.value v) w':=by
 simp [execOp,ho,resolve,invoke,builtin,h]
def cpyF (off c:Nat) (f h:Nat→CV) (j:Nat):CV:=if off≤j∧j<off+c then h (j-off) else f j
theorem m_copy {e:TypeId} {i off n m k N:Nat} {g:Option Nat} {f h:Nat→CV} (ho:o.op=.call ⟨.builtin .copy,#[x,y],#[t,u]⟩) (hx:s.eval x=.os i g off n k) (hH:s.H[i]?=some (g,.blk N f)) (hN:off+n * k≤N)
  (hsrc:ASrc P G s y k m h) (hmn:m≤n) (h1:P.underlying t=some (.slice e)) (h5:(P.info? e).map (·.size)=some k)
  (F:Nat→CV) (hF:∀ j,j<N→CEnt (cpyF off (m * k) f h j) (F j)) (hleaf:∀ j,j<m * k→leafC (h j)=true) (hd:dstOk G o=true)
  (hK:K (s.with o.dst (.c (.int .i64 (m:Nat))) (s.H.set i (g,.blk N F)))):AMd P G o s K:=fun St a w hr Q=>by
 obtain ⟨info,hi,hs⟩:=Option.map_eq_some_iff.1 h5
 obtain ⟨news,hnl,hnr,hrun⟩:=hsrc St a w hr
 have he:=evR hr hx
 have hargs:(#[x,y]:Array Operand).map a.eval=#[a.eval x,a.eval y]:=by simp
 have put:∀ {w':World} {v:Value} {c:CV} {H:List (Option Nat×Res)},RelSt G St ⟨s.env,s.b,H⟩ a w'→RepC G.al St w' c v→RelSt G St (s.with o.dst c H) (a.put o.dst v) w':=fun {w' v c H} h1 h2=>by
  have:=h1.put (dst:=o.dst) (dst_of hd) h2
  cases ho:o.dst with
  | none=>rw [ho] at this;exact this
  | some d=>rw [ho] at this;exact this
 have hmin:Nat.min m n=m:=Nat.min_eq_left hmn
 cases g with
 | none =>
  obtain ⟨hn0,ev⟩:=he
  subst hn0
  have hm0:m=0:=by omega
  subst hm0
  have hrun':(Builtin.copy_ #[t,u] o.type #[a.eval x,a.eval y]).run P w=.ok (.int .i64 ((0:Nat):Int)) w:=by
   rw [ev]
   simp [Builtin.copy_,underlying,h1,(hrun w rfl).1,sizeOf,typeInfo,hi,hs,(hrun w rfl).2]
   rfl
  unfold Oper.wp
  rw [exec_copy ho (by rw [hargs];exact hrun')]
  refine ⟨KeepS.refl _ _,St,fun _ h=>h,_,hK,?_⟩
  have hlt:=(List.getElem?_eq_some_iff.1 hH).1
  have hmv:RelSt G St ⟨s.env,s.b,s.H.set i (none,.blk N F)⟩ a w:=by
   refine ⟨hr.df,hr.sz,hr.env,hr.un,hr.s1,hr.s2,hr.s3,?_,hr.sn,hr.sg⟩
   obtain ⟨fp,hp⟩:=hr.hp
   refine ⟨fp,fun j q r hj=>?_,hp.dis,hp.own,fun j hj=>hp.out j (by simpa using hj)⟩
   by_cases hj2:j=i
   ·subst hj2
    simp [hlt] at hj
    obtain ⟨rfl,rfl⟩:=hj
    exact ⟨(hp.rep j none _ hH).1,(hp.rep j none _ hH).2⟩
   ·rw [List.getElem?_set_ne (Ne.symm hj2)] at hj
    exact hp.rep j q r hj
  exact put hmv rfl
 | some g =>
  obtain ⟨cap,ev,hle,hcap,hfit0⟩:=he
  obtain ⟨fp,hp⟩:=hr.hp
  obtain ⟨hb0,cur,ty,hh,hle2,hcell⟩:=hp.rep i (some g) _ hH
  have hmk:m * k≤n * k:=Nat.mul_le_mul_right _ hmn
  have hfit:off+news.length≤cur.size:=by omega
  have hone:∀ v ∈ news,v.oneCell'=true:=fun v hv=>by
   obtain ⟨j,hj,e⟩:=List.mem_iff_getElem.1 hv
   have h2:=hnr j (by omega)
   rw [show news.getD j undef=v by simp [List.getD,hj,e]] at h2
   exact leaf_one (hleaf j (by omega)) h2
  have hst:=run_storeCells_at P g off ty news 0 cur w hh (by omega) hone
  simp only [Nat.add_zero] at hst
  have hrun':(Builtin.copy_ #[t,u] o.type #[a.eval x,a.eval y]).run P w=.ok (.int .i64 (m:Nat)) (w.setRow g (cur.toList.take off++news++cur.toList.drop (off+news.length)).toArray):=by
   rw [ev]
   simp [Builtin.copy_,underlying,h1,(hrun w rfl).1,hmin,sizeOf,typeInfo,hi,hs,(hrun w rfl).2,hst]
   rfl
  unfold Oper.wp
  rw [exec_copy ho (by rw [hargs];exact hrun')]
  refine ⟨fun q hq=>setRow_other w g q _ (fun e=>(hp.own i g ((hb0 g).2 rfl)).2.1 (e ▸ hq)),St,fun _ h=>h,_,hK,?_⟩
  have hw:=hr.write hH hh (cs:=(cur.toList.take off++news++cur.toList.drop (off+news.length)).toArray) (by simp;omega) (n':=N) (f':=F) (by simp;omega) (fun j hj=>by
   refine hF j hj _ _ _ _ ?_
   rw [row_at cur news off hfit]
   unfold cpyF
   by_cases h3:off≤j∧j<off+m * k
   ·rw [if_pos h3,if_pos (by omega)];exact hnr _ (by omega)
   ·rw [if_neg h3,if_neg (by omega)];exact hcell j (by omega))
  exact put hw rfl
end
section
variable {P:Program} {G:Gh} {o:Oper} {K:AS→Prop} {env:List (Nat×CV)} {b0:Nat→CV} {H:List (Option Nat×Res)}
theorem jmcpB {t u:TypeId} {x y:Operand} {i off n N d:Nat} {g:Option Nat} {f:Nat→CV} (L:List UInt8) (F:Nat→CV) (hF:∀ j,j<N→CEnt (cpyF off L.length f (byF L) j) (F j)) (hK:K ⟨(d,.c (.int .i64 (L.length:Nat)))::env,b0,H.set i (g,.blk N F)⟩)
  (hsrc:ASrc P G ⟨env,b0,H⟩ y 1 L.length (byF L)) (ho:o.op=.call ⟨.builtin .copy,#[x,y],#[t,u]⟩:=by exact rfl) (hx:(⟨env,b0,H⟩:AS).eval x=.os i g off n 1:=by exact rfl) (hH:H[i]?=some (g,.blk N f):=by exact rfl) (hN:off+n * 1≤N:=by omega) (hmn:L.length≤n:=by omega)
  (h1:jslQ P t 1=true:=by kernel_rfl) (hd:o.dst=some d:=by exact rfl) (hdN:Nat.blt d G.N=true:=by exact rfl):AMd P G o ⟨env,b0,H⟩ K:=by
 obtain ⟨e,h2,h5⟩:=jslQ_ok h1
 refine m_copy ho hx hH hN hsrc hmn h2 h5 F (by rw [Nat.mul_one];exact hF) (fun j hj=>rfl) (by unfold dstOk;rw [hd];exact hdN) ?_
 rw [hd]
 exact hK
theorem src_bs {s:AS} {y:Operand} {L:List UInt8} (hy:s.eval y=bsC L):ASrc P G s y 1 L.length (byF L):=by
 have:=src_rs (P:=P) (G:=G) (k:=1) hy
 have e:(fun j=>(fun i _=>byF L i) (j / 1) (j % 1))=byF L:=by funext j;show byF L (j / 1)=_;rw [Nat.div_one]
 rw [← e]
 exact this
end
section
variable {P:Program} {G:Gh} {o:Oper} {s:AS} {t:TypeId} {x y:Operand} {k:IntKind}
theorem rd_indexB {e:TypeId} {len n i:Nat} {f:Nat→CV} {v:CV} {z:Int} (ho:o.op=.index t x y) (hx:s.eval x=.agg n f) (hy:s.eval y=.c (.int k z)) (h1:P.underlying t=some (.array len e)) (h3:P.underlying e=some (.int .u8)) (h5:(P.info? e).map (·.size)=some 1)
  (hz:z=(i:Int)) (hi:i<len) (hn:i<n) (hv:f i=v):ARd P G o s v:=fun St a w h=>by
 obtain ⟨info,h5i,h6⟩:=Option.map_eq_some_iff.1 h5
 obtain ⟨cs,e',hn',hf⟩:=evR h hx
 refine ⟨cs.getD i undef,fun W _=>?_,hv ▸ hf _ hn⟩
 simp only [execOp,ho,e',evC h hy]
 refine vOk ?_
 subst hz
 have:i<cs.size:=by omega
 have h4:aggB P e=false:=by unfold aggB;rw [h3]
 simp [Instr.index,asIntOf,underlying,h1,hi,part,run_isAgg h3,h4,sizeOf,typeInfo,h5i,h6,this]
def jaryB (P:Program) (t:TypeId) (n:Nat):Bool:=match P.underlying t with
 | some (.array k e)=>(match P.underlying e,(P.info? e).map (·.size) with|some (.int .u8),some 1=>Nat.beq k n|_,_=>false)
 | _=>false
theorem jaryB_ok {t:TypeId} {n:Nat} (h:jaryB P t n=true):∃ e,P.underlying t=some (.array n e)∧P.underlying e=some (.int .u8)∧(P.info? e).map (·.size)=some 1:=by
 unfold jaryB at h
 split at h
 ·rename_i q e he
  split at h
  ·rename_i h1 h2;exact ⟨e,by rw [he,Nat.eq_of_beq_eq_true h],h1,h2⟩
  ·cases h
 ·cases h
theorem jrixB (len:Nat) {i n:Nat} {f:Nat→CV} {v:CV} {z:Int} (ho:o.op=.index t x y:=by exact rfl) (hx:s.eval x=.agg n f:=by exact rfl) (hy:s.eval y=.c (.int k z):=by exact rfl) (hv:f i=v:=by first|exact jflO_eq rfl|exact jfz_eq rfl) (hz:z=(i:Int):=by first|exact rfl|exact natI (by omega))
  (hi:i<len:=by first|decide|omega|(dsimp only at *;omega)) (hn:i<n:=by first|decide|omega|(dsimp only at *;omega)) (hT:jaryB P t len=true:=by kernel_rfl):ARd P G o s v:=by
 obtain ⟨e,h1,h3,h5⟩:=jaryB_ok hT
 exact rd_indexB ho hx hy h1 h3 h5 hz hi hn hv
end
end
section
theorem and_all:∀ c:Fin 256,IntKind.u8.wrap (BitVec.ofInt (IntKind.bits .u8) ((c.val:Nat):Int) &&& BitVec.ofInt (IntKind.bits .u8) 15).toNat=((c.val % 16:Nat):Int):=by decide +kernel
theorem and_15 (c:UInt8):IntKind.u8.wrap (BitVec.ofInt (IntKind.bits .u8) ((c.toNat:Nat):Int) &&& BitVec.ofInt (IntKind.bits .u8) 15).toNat=((c.toNat % 16:Nat):Int):=and_all ⟨c.toNat,c.toNat_lt⟩
theorem shr_4 (n:Nat):((n:Nat):Int).fdiv (2 ^ min (Int.toNat 4) (IntKind.bits .u8))=((n / 16:Nat):Int):=by
 show Int.fdiv _ (16:Int)=_
 rw [Int.fdiv_eq_ediv_of_nonneg _ (by decide)]
 omega
theorem flatX_take {b:List UInt8} {i:Nat} (h:i<b.length):flatX (b.take (i+1))=flatX (b.take i)++[hx ((b.getD i 0).toNat / 16),hx ((b.getD i 0).toNat % 16)]:=by
 rw [List.take_succ_eq_append_getElem h,flatX_snoc]
 simp [List.getD,h]
theorem hexL_all:∀ k:Fin 16,hexL.getD k.val 0=hx k.val:=by decide
theorem hexL_hx {k:Nat} (h:k<16):hexL.getD k 0=hx k:=hexL_all ⟨k,h⟩
theorem fl_map (f:Nat→CV) {n j:Nat} (h:j<n):fl (List.map f (List.range n)) j=f j:=by rw [fl_get];simp [List.getD,h]
set_option maxHeartbeats 1000000 in
theorem figs_ac {gs:List Nat} (b:List UInt8) (hb:b.length=32):ACp gs Tryz.prog 230 [.agg 32 (byF b)] (strC (flatX b)):=by
 refine ac_of 22 Tryz.func230 rfl rfl rfl (fun al w0 F0 St0=>?_)
 refine jcr ?_
 refine jqe (jebx 32 fun p1=>?_)
 refine jU 51 ?_;refine jE (blk_ent 0 (m:=32) (F:=byF b) rfl (by decide) (fun _=>rfl) (fun j hj=>CEnt.of_eq (fl_map _ hj))) ?_;refine jU 67516 ?_;refine jqo (jrdoA 32) ?_;refine jU 2051 ?_;refine jE (own_nil 3 1 (byF []) rfl) ?_;refine jE (weaken 6 (.agg 32 (byF b)) (CEnt.agg rfl fun j hj=>CEnt.of_eq (by rw [Nat.zero_add]))) ?_;refine l_loop (α:=Nat×Option Nat) [3,5,7,8,9,10,11,12,13,14,15,16,17,18,19] (fun (i,g)=>[(7,.c (.int .i64 (i:Nat))),(3,.os 1 g 0 (flatX (b.take i)).length 1)]) (fun (i,g)=>[(p1,.blk 32 (byF b)),(g,.blk (flatX (b.take i)).length (byF (flatX (b.take i))))]) (fun (i,g)=>i≤32) (fun (i,g)=>32-i) ((0,none)) ?_ (fun _=>rfl) ?_ ?_ ?_
 ·exact Nat.zero_le _
 ·exact .cons cZ (.cons (cO rfl) .nil)
 ·exact HEnt.refl _
 ·rintro ⟨i,g⟩ (hi:i≤32)
  have hbl:=(b.getD i 0).toNat_lt
  have hfl:(flatX (b.take i)).length≤64:=by rw [flatX_len,List.length_take];omega
  refine jU 7526 ?_;refine jcc (fun h124=>?_) fun h124=>?_
  rotate_left
  ·refine jU 84000200020006000 ?_
   have hil:i=b.length:=by omega
   refine jU 16 ?_;refine jqo jrbo ?_;refine jU 51 ?_
   refine jR (jrt (hv:=?_))
   rw [hil,List.take_length];exact cZ
  refine jU 6207810 ?_;refine jq (jrixB 32) ?_;refine jU 51 ?_;refine jcdB 8 (.rd 0 (.rd 1 (.rd 2 (.rd 3 (.rd 4 (.rd 5 (.rd 6 (.one 7 .done)))))))) ?_;refine jU 7070 ?_;refine jyq (rd_shr rfl rfl rfl (by (omega)) ((((b.getD i 0).toNat / 16:Nat):Int)) ((shr_4 _))) ?_;refine jyq (jrix (i:=((b.getD i 0).toNat / 16)) (hz:=by omega) (hS:=by (show _<16;omega))) ?_;refine jU 70 ?_;refine jyq (rd_and rfl rfl rfl ((((b.getD i 0).toNat % 16:Nat):Int)) ((and_15 _))) ?_;refine jyq (jrix (i:=((b.getD i 0).toNat % 16)) (hz:=by omega) (hS:=by (show _<16;omega))) ?_
  refine jye (jebl 2 1 zr5 fun p2=>?_)
  refine jyd ?_
  show ASeq _ _ _ _ _ _
  refine jqm (m_appendB (l2:=[hx ((b.getD i 0).toNat / 16),hx ((b.getD i 0).toNat % 16)]) rfl rfl rfl (Nat.le_refl _) (fun _ _=>cZ) (src_os rfl (.inl rfl) (by decide)) rfl (hh_bytes (.cons (cI ((by rw [← hexL_hx (by omega)];rfl))) (.cons (cI ((by rw [← hexL_hx (by omega)];rfl))) .nil))) Tryz.underlying22 nu22 sz5 zr5 by5 rfl (by (simp;omega)) (leaf_fl rfl rfl) rfl rfl (fun p3=>?_))
  refine jU 8519200840051 ?_
  refine jlend ((i+1,p3)) ?_ ?_ (h5:=?_) (h7:=?_)
  ·show i+1≤32;omega
  ·show 32-(i+1)<32-i;omega
  ·exact .cons (cI (by omega)) (.cons (cO (by rw [flatX_take (by omega)];done)) .nil)
  ·exact .same (.blk (by rw [flatX_take (by omega)];done) (fun j hj=>CEnt.of_eq (by rw [flatX_take (by omega)])) .nil)
theorem rep_cell (n j:Nat) (hj:j<n) (v u:Value):(List.replicate n v).toArray.getD j u=v:=by simp [hj]
theorem zero32 (j:Nat) (hj:j<32):CEnt (.c ((Value.agg #[.int .u8 0,.int .u8 0,.int .u8 0,.int .u8 0,.int .u8 0,.int .u8 0,.int .u8 0,.int .u8 0,.int .u8 0,.int .u8 0,.int .u8 0,.int .u8 0,.int .u8 0,.int .u8 0,.int .u8 0,.int .u8 0,.int .u8 0,.int .u8 0,.int .u8 0,.int .u8 0,.int .u8 0,.int .u8 0,.int .u8 0,.int .u8 0,.int .u8 0,.int .u8 0,.int .u8 0,.int .u8 0,.int .u8 0,.int .u8 0,.int .u8 0,.int .u8 0]).cells.getD j undef)) (.c (.int .u8 0)):=by
 show CEnt (.c ((List.replicate 32 (Value.int .u8 0)).toArray.getD j undef)) _
 exact CEnt.of_eq (congrArg CV.c (rep_cell 32 j hj _ _))
theorem pad_cell {b:List UInt8} (hb:b.length=16) {f:Nat→CV} (hf:∀ j,j<32→CEnt (f j) (.c (.int .u8 0))) (j:Nat) (hj:j<32):CEnt (cpyF 0 b.length f (byF b) j) (byF (b++List.replicate 16 0) j):=by
 unfold cpyF
 by_cases h:j<16
 ·rw [if_pos (by omega),Nat.sub_zero]
  refine CEnt.of_eq ?_
  unfold byF
  simp [List.getD,List.getElem?_append_left (show j<b.length by omega)]
 ·rw [if_neg (by omega)]
  have e:byF (b++List.replicate 16 0) j=.c (.int .u8 0):=by
   unfold byF
   rw [List.getD_eq_getElem?_getD,List.getElem?_append_right (by omega),List.getElem?_replicate]
   split <;> rfl
  rw [e]
  exact hf j hj
theorem flat_pad {b:List UInt8} (hb:b.length=16):(flatX (b++List.replicate 16 0)).take 32=flatX b:=by
 have h1:flatX (b++List.replicate 16 0)=flatX b++flatX (List.replicate 16 0):=by unfold flatX;rw [List.map_append,List.flatten_append]
 rw [h1,List.take_append_of_le_length (by rw [flatX_len];omega),List.take_of_length_le (by rw [flatX_len];omega)]
set_option maxHeartbeats 1000000 in
theorem mtext_ac {gs:List Nat} [Ok9 gs] (b:List UInt8):ACp gs Tryz.prog 186 [bsC b] (.tup 2 (fl [strC (if b.length=16 then flatX b else []),.err (if b.length=16 then 0 else 4)])):=by
 refine ac_of 15 Tryz.func186 rfl rfl rfl (fun al w0 F0 St0=>?_)
 refine jU 5231675116 ?_;refine jcc (fun h115=>?_) fun h115=>?_
 ·refine jcs ?_;refine jcd (.rd 0 (.rd 1 (.rd 2 .done))) ?_;refine jU 88070704000000 ?_
  refine jR (jtr (jrt (hv:=?_)))
  rw [if_neg (by omega),if_neg (by omega)];exact cT cZ (CEnt.errN rfl)
 refine jU 810 ?_
 have h16:b.length=16:=by omega
 have hfl:(flatX (b++List.replicate 16 0)).length=64:=by rw [flatX_len,List.length_append,List.length_replicate,h16]
 refine jcr ?_
 refine jqe (jeal (n:=32) zr278 rfl fun p1=>?_)
 refine jU 65 ?_;refine jq (rd_sliceA rfl rfl (.inl rfl) (by decide) Tryz.underlying278 sz5 (bd_none _ _) (bd_none _ _) (by (omega)) (by (omega)) (by (omega)) rfl) ?_;refine jU 1 ?_
 refine jqm (jmcpB (b) (byF (b++List.replicate 16 0)) (fun j hj=>pad_cell h16 zero32 j hj) ?_ (src_bs rfl))
 refine jU 65 ?_;refine jqo (jrdoA 32) ?_
 refine jqe (jecP (figs_ac (b++List.replicate 16 0) (by rw [List.length_append,h16,List.length_replicate])) ?_ (ho:=rfl) (he:=(.cons (se rfl (CEnt.agg rfl fun j hj=>CEnt.of_eq (by rw [Nat.zero_add]))) .nil)))
 refine jq (rd_sliceLT rfl rfl Tryz.underlying9 rfl (show (32:Int)=((32:Nat):Int) from rfl) (by (omega))) ?_;refine jU 511 ?_
 refine jR (jrt (hv:=?_))
 rw [if_pos h16,if_pos h16,flat_pad h16];exact cT cZ (CEnt.nilE rfl)
end
section
open Go.RowKit Cal
def certF (c:C11):Nat→CV:=fl [.c (.int .i64 c.se),strC c.iss,.c (.int .i64 c.ge),.c (.int .i64 c.who.1),strC c.who.2.1,strC c.who.2.2,.c (.int .i64 c.nb),.c (.int .i64 c.na),strC c.ky,.c (.int .i64 c.us),lsC c.al]
theorem within11_ac {gs:List Nat} (n x y:Int):ACp gs Tryz.prog 107 [.c (.int .i64 n),.c (.int .i64 x),.c (.int .i64 y)] (.c (.bool (inB x n y))):=by
 refine ac_of 15 Tryz.func107 rfl rfl rfl (fun al w0 F0 St0=>?_)
 refine jU 12116516 ?_;refine jqsp 10 (fun g22=>?_) fun g22=>?_
 ·refine jU 518000211 ?_
  refine jR (jrt (hv:=?_))
  refine cB ?_
  unfold inB
  (simp_all;done)
 refine jU 51500444 ?_
 refine jR (jrt (hv:=?_))
 refine cB ?_
 unfold inB
 (rw [Bool.eq_iff_iff];simp;omega)
theorem key11_ac {gs:List Nat} [Ok9 gs] (l:List UInt8):ACp gs Tryz.prog 108 [strC l] (.c (.bool (hexOk l))):=by
 refine ac_of 12 Tryz.func108 rfl rfl rfl (fun al w0 F0 St0=>?_)
 refine jU 16516 ?_
 refine jqe (jecP (mnum_ac l) ?_)
 refine jU 51500000165119009001 ?_
 refine jR (jrt (hv:=?_))
 refine cB ?_
 cases h:hexOk l <;> simp
set_option maxHeartbeats 4000000 in
theorem right11_ac {gs:List Nat} [Ok9 gs] (c:C11) (hn:c.al.length≤1000):ACp gs Tryz.prog 47 [.agg 11 (certF c)] (.c (.bool (rightC c))):=by
 refine ac_of 83 Tryz.func47 rfl rfl rfl (fun al w0 F0 St0=>?_)
 refine jcr ?_
 refine jqe (jebx 11 fun p1=>?_)
 refine jU 51 ?_;refine jE (blk_ent 0 (m:=11) (F:=certF c) rfl (by decide) (fun _=>rfl) (fun j hj=>CEnt.of_eq (fl_map _ hj))) ?_;refine jcr ?_;refine jq (jrfa 10 1 false) ?_;refine jU 67512350 ?_;refine jq (jrfa 10 1 false) ?_;refine jU 2051350 ?_;refine l_loop (α:=Nat) [3,4,5,14,15,16,17,18,19,20,21,22,23,24,25,26,27,28,29,30,31,32,33,34,35,36,37,38] (fun i=>[(3,.c (.bool (decide (c.al.length≤8) && risesTo c.al i))),(14,.c (.int .i64 (i:Nat)))]) (fun i=>[(p1,.blk 11 (certF c))]) (fun i=>i≤c.al.length) (fun i=>c.al.length-i) (0) ?_ (fun _=>rfl) ?_ ?_ ?_
 ·exact Nat.zero_le _
 ·exact .cons (cB (by (simp [risesTo];omega))) (.cons cZ .nil)
 ·exact .same .nil
 ·rintro i (hi:i≤c.al.length)
  refine jU 7526 ?_;refine jcc (fun h33=>?_) fun h33=>?_
  ·refine jU 112005116070016207810 ?_;refine jqsp 20 (fun g34=>?_) fun g34=>?_
   rotate_left
   ·refine jU 8519200840051500444444444444150044 ?_
    refine jlend (i+1) ?_ ?_ (h5:=?_) (h7:=?_)
    ·show i+1≤c.al.length;omega
    ·show c.al.length-(i+1)<c.al.length-i;omega
    ·exact .cons (cB (by show _=(decide (c.al.length≤8) && (risesTo c.al i && okA c.al i));unfold okA;(simp_all;done))) (.cons (cI (by omega)) .nil)
    ·exact .same .nil
   refine jU 1 ?_
   refine jqe (jecP (label_ac (c.al.getD i [])) ?_)
   refine jU 18000 ?_;refine jqsp 24 (fun g34_2=>?_) fun g34_2=>?_
   rotate_left
   ·refine jU 8519200840051500444444444444 ?_
    refine jlend (i+1) ?_ ?_ (h5:=?_) (h7:=?_)
    ·show i+1≤c.al.length;omega
    ·show c.al.length-(i+1)<c.al.length-i;omega
    ·exact .cons (cB (by show _=(decide (c.al.length≤8) && (risesTo c.al i && okA c.al i));unfold okA;(simp_all;done))) (.cons (cI (by omega)) .nil)
    ·exact .same .nil
   refine jU 121 ?_;refine jqsp 27 (fun g34_3=>?_) fun g34_3=>?_
   ·refine jU 85192008400518000800044444444 ?_
    refine jlend (i+1) ?_ ?_ (h5:=?_) (h7:=?_)
    ·show i+1≤c.al.length;omega
    ·show c.al.length-(i+1)<c.al.length-i;omega
    ·exact .cons (cB (by show _=(decide (c.al.length≤8) && (risesTo c.al i && okA c.al i));unfold okA;(simp_all;done))) (.cons (cI (by omega)) .nil)
    ·exact .same .nil
   refine jq (jrfa 10 1 false) ?_;refine jU 9150 ?_;refine jq (jri (i:=(i-1)) (hz:=by omega)) ?_;refine jU 8519200840051800050060000160 ?_
   refine jlend (i+1) ?_ ?_ (h5:=?_) (h7:=?_)
   ·show i+1≤c.al.length;omega
   ·show c.al.length-(i+1)<c.al.length-i;omega
   ·exact .cons (cB (by show _=(decide (c.al.length≤8) && (risesTo c.al i && okA c.al i));unfold okA;(simp_all;done))) (.cons (cI (by omega)) .nil)
   ·exact .same .nil
  refine jU 84000200020006000 ?_
  have hil:i=c.al.length:=by omega
  refine jU 50200000006 ?_
  refine jqe (jecP (within11_ac _ _ _) ?_)
  refine jU 1 ?_;refine jqsp 42 (fun g36=>?_) fun g36=>?_
  rotate_left
  ·refine jU 1165150044444 ?_;refine jqsp 50 (fun g37=>?_) fun g37=>?_
   ·refine jU 5150044415004441500444150044415004441500444180001 ?_
    refine jR (jrt (hv:=?_))
    refine cB ?_
    unfold rightC altsM
    rw [← hil]
    (simp_all;done)
   refine jU 515004441500444150044415004441500444150044415004 ?_
   refine jR (jrt (hv:=?_))
   refine cB ?_
   unfold rightC altsM
   rw [← hil]
   (simp_all;done)
  refine jq (jrfa 7 1 false) ?_;refine jU 502000000050 ?_
  refine jqe (jecP (within11_ac _ _ _) ?_)
  refine jU 116518000 ?_;refine jqsp 50 (fun g37=>?_) fun g37=>?_
  rotate_left
  ·refine jU 515004441500444150044415004441500444150044415004 ?_
   refine jR (jrt (hv:=?_))
   refine cB ?_
   unfold rightC altsM
   rw [← hil]
   (simp_all;done)
  refine jU 180001 ?_;refine jqsp 53 (fun g37_2=>?_) fun g37_2=>?_
  rotate_left
  ·refine jU 5150044415004441500444150044415004441500444 ?_
   refine jR (jrt (hv:=?_))
   refine cB ?_
   unfold rightC altsM
   rw [← hil]
   (simp_all;done)
  refine jU 5090 ?_
  refine jqe (jecP (within11_ac _ _ _) ?_)
  refine jU 18000 ?_;refine jqsp 58 (fun g37_3=>?_) fun g37_3=>?_
  rotate_left
  ·refine jU 515004441500444150044415004441500444 ?_
   refine jR (jrt (hv:=?_))
   refine cB ?_
   unfold rightC altsM
   rw [← hil]
   (simp_all;done)
  refine jU 501000 ?_
  refine jqe (jecP (within11_ac _ _ _) ?_)
  refine jU 18000 ?_;refine jqsp 63 (fun g37_4=>?_) fun g37_4=>?_
  rotate_left
  ·refine jU 51500444150044415004441500444 ?_
   refine jR (jrt (hv:=?_))
   refine cB ?_
   unfold rightC altsM
   rw [← hil]
   (simp_all;done)
  refine jq (jrfa 9 1 false) ?_;refine jU 50 ?_
  refine jqe (jecP (within11_ac _ _ _) ?_)
  refine jU 18000 ?_;refine jqsp 68 (fun g37_5=>?_) fun g37_5=>?_
  rotate_left
  ·refine jU 5150044415004441500444 ?_
   refine jR (jrt (hv:=?_))
   refine cB ?_
   unfold rightC altsM
   rw [← hil]
   (simp_all;done)
  refine jU 50100 ?_
  refine jqe (jecP (key11_ac _) ?_)
  refine jU 18000 ?_;refine jqsp 73 (fun g37_6=>?_) fun g37_6=>?_
  rotate_left
  ·refine jU 515004441500444 ?_
   refine jR (jrt (hv:=?_))
   refine cB ?_
   unfold rightC altsM
   rw [← hil]
   (simp_all;done)
  refine jq (jrfa 8 1 false) ?_;refine jU 50 ?_
  refine jqe (jecP (key11_ac _) ?_)
  refine jU 18000 ?_;refine jqsp 78 (fun g37_7=>?_) fun g37_7=>?_
  ·refine jq (jrfa 3 3 true) ?_;refine jqo (jrdoA 3) ?_
   refine jqe (jecP (nright_ac c.who) ?_)
   refine jU 518000 ?_
   refine jR (jrt (hv:=?_))
   refine cB ?_
   unfold rightC altsM
   rw [← hil]
   (simp_all;done)
  refine jU 51500444 ?_
  refine jR (jrt (hv:=?_))
  refine cB ?_
  unfold rightC altsM
  rw [← hil]
  (simp_all;done)
end
section
open Go.RowKit Cal
section
variable {P:Program} {G:Gh} {o:Oper} {s:AS} {t u:TypeId} {x y:Operand} {a b:List UInt8}
theorem rd_leS {a b:ByteArray} (ho:o.op=.binOp .leq t x y u) (hx:s.eval x=.c (.string a)) (hy:s.eval y=.c (.string b)):ARd P G o s (.c (.bool (Op.bytesLess a.toList b.toList || a.toList == b.toList))) :=
 rd_bin ho hx hy fun W=>by simp [binS,eqG_str,binOp,Op.stringOp]
theorem rd_leL (ho:o.op=.binOp .leq t x y u) (hx:s.eval x=strC a) (hy:s.eval y=strC b):ARd P G o s (.c (.bool (Op.bytesLess a b || a == b))):=by
 have:=rd_leS (P:=P) (G:=G) ho hx hy
 rwa [ba_toList,ba_toList] at this
end
theorem rid_ac {gs:List Nat} (l:List UInt8) (hl:l.length≤1000000):ACp gs Tryz.prog 110 [strC l] (.c (.bool (hexOk l))):=by
 refine ac_of 11 Tryz.func110 rfl rfl rfl (fun al w0 F0 St0=>?_)
 refine jU 16516 ?_
 refine jqe (jecP (rnum_ac l hl) ?_)
 refine jU 51165119009001 ?_
 refine jR jrt
theorem le_not (a b:List UInt8):(Op.bytesLess a b || a == b)=!(Op.bytesLess b a):=by
 have h:=gt_cmp a b
 have hs:=cmpL_swap a b
 rw [← Bool.not_not (Op.bytesLess a b || a == b),h,← cmpL_lt b a]
 congr 1
 exact decide_eq_decide.2 (by omega)
set_option maxHeartbeats 2000000 in
theorem ralts_ac {gs:List Nat} (l:List (List UInt8)):ACp gs Tryz.prog 112 [lsC l] (.c (.bool (altsM l))):=by
 refine ac_of 32 Tryz.func112 rfl rfl rfl (fun al w0 F0 St0=>?_)
 refine jU 523167516 ?_;refine jcc (fun h23=>?_) fun h23=>?_
 ·refine jU 516 ?_
  refine jR (jtr (jrt (hv:=?_)))
  refine cB ?_
  unfold altsM
  rw [decide_eq_false (by omega),Bool.false_and]
 refine jU 20513167810 ?_;refine l_loop (α:=Nat) [2,3,4,10,11,12,13,14,15,16,17,18,19,20,21,22,23,24,25,26,27,28,29,30,31] (fun i=>[(10,.c (.int .i64 (i:Nat)))]) (fun _=>[]) (fun i=>i≤l.length∧risesTo l i=true) (fun i=>l.length-i) (0) ?_ (fun _=>rfl) ?_ ?_ ?_
 ·exact ⟨Nat.zero_le _,rfl⟩
 ·(repeat (first|exact EntE.nil|refine EntE.cons cZ ?_))
 ·(repeat (exact HEnt.nil))
 ·rintro i ⟨(hi:i≤l.length),hr⟩
  refine jU 7526 ?_;refine jcc (fun h26=>?_) fun h26=>?_
  rotate_left
  ·refine jU 51684000200020006000 ?_
   refine jR (jrt (hv:=?_))
   refine cB ?_
   have hil:i=l.length:=by omega
   unfold altsM
   rw [← hil,hr,decide_eq_true (by omega)]
   rfl
  refine jU 165116070016207810 ?_
  refine jqe (jecP (rlabel_ac (l.getD i [])) ?_)
  refine jU 130 ?_;refine jqsp 18 (fun g27=>?_) fun g27=>?_
  ·refine jU 51690005800044444444444 ?_
   refine jR (jbr (jtr (jtr (jbr (jtr (jrt (hv:=?_)))))))
   refine cB ?_
   have ho:okA l i=false:=by
    unfold okA
    (simp_all;done)
   unfold altsM
   rw [rises_no ho (by omega),Bool.and_false]
  refine jU 121 ?_;refine jqsp 21 (fun g27_2=>?_) fun g27_2=>?_
  rotate_left
  ·refine jU 851920084001030055005004444444 ?_;refine jlend (i+1) ?_ ?_
   ·refine ⟨by omega,?_⟩
    show (risesTo l i && okA l i)=true
    rw [hr,Bool.true_and]
    unfold okA
    (simp_all;done)
   ·show l.length-(i+1)<l.length-i;omega
  refine jU 9111 ?_;refine jq (jri (i:=(i-1)) (hz:=by omega)) ?_;refine jU 60 ?_;refine jq (rd_leL rfl rfl rfl) ?_;refine jU 55008000 ?_;refine jcc (fun h27=>?_) fun h27=>?_
  ·refine jU 516 ?_
   refine jR (jbr (jtr (jtr (jbr (jtr (jrt (hv:=?_)))))))
   refine cB ?_
   have ho:okA l i=false:=by
    unfold okA
    (rw [le_not] at h27;simp_all;omega)
   unfold altsM
   rw [rises_no ho (by omega),Bool.and_false]
  refine jU 8519200840010 ?_;refine jlend (i+1) ?_ ?_
  ·refine ⟨by omega,?_⟩
   show (risesTo l i && okA l i)=true
   rw [hr,Bool.true_and]
   unfold okA
   (rw [le_not] at h27;simp_all;done)
  ·show l.length-(i+1)<l.length-i;omega
set_option maxHeartbeats 4000000 in
theorem rright11_ac {gs:List Nat} (c:C11) (h1:c.iss.length≤1000) (h2:c.ky.length≤1000):ACp gs Tryz.prog 48 [.agg 11 (certF c)] (.c (.bool (rightC c))):=by
 refine ac_of 64 Tryz.func48 rfl rfl rfl (fun al w0 F0 St0=>?_)
 refine jcr ?_
 refine jqe (jebx 11 fun p1=>?_)
 refine jU 1250906751 ?_;refine jqsp 6 (fun g36=>?_) fun g36=>?_
 ·refine jU 51690005800044418000444180004441800044418000444 ?_
  refine jR (jtr (jrt (hv:=?_)))
  refine cB ?_
  unfold rightC inB
  (simp_all;omega)
 refine jU 150025090 ?_;refine jqsp 11 (fun g36_2=>?_) fun g36_2=>?_
 ·refine jU 516900058000444180004441800044418000444 ?_
  refine jR (jtr (jrt (hv:=?_)))
  refine cB ?_
  unfold rightC inB
  (simp_all;omega)
 refine jU 15002501000 ?_;refine jqsp 16 (fun g36_3=>?_) fun g36_3=>?_
 ·refine jU 5169000580004441800044418000444 ?_
  refine jR (jtr (jrt (hv:=?_)))
  refine cB ?_
  unfold rightC inB
  (simp_all;omega)
 refine jU 15002501000 ?_;refine jqsp 21 (fun g36_4=>?_) fun g36_4=>?_
 ·refine jU 51690005800044418000444 ?_
  refine jR (jtr (jrt (hv:=?_)))
  refine cB ?_
  unfold rightC inB
  (simp_all;omega)
 refine jq (jrfa 9 1 false) ?_;refine jU 1500250 ?_;refine jqsp 26 (fun g36_5=>?_) fun g36_5=>?_
 ·refine jU 516900058000444 ?_
  refine jR (jtr (jrt (hv:=?_)))
  refine cB ?_
  unfold rightC inB
  (simp_all;omega)
 refine jq (jrfa 9 1 false) ?_;refine jU 5500250 ?_;refine jcc (fun h36=>?_) fun h36=>?_
 ·refine jU 516 ?_
  refine jR (jtr (jrt (hv:=?_)))
  refine cB ?_
  unfold rightC inB
  (simp_all;omega)
 refine jU 12502000000067810 ?_;refine jqsp 34 (fun g39=>?_) fun g39=>?_
 ·refine jU 5169000580004441800044444 ?_
  refine jR (jtr (jrt (hv:=?_)))
  refine cB ?_
  unfold rightC inB
  (simp_all;omega)
 refine jq (jrfa 7 1 false) ?_;refine jU 15002502000000050 ?_;refine jqsp 41 (fun g39_2=>?_) fun g39_2=>?_
 ·refine jU 516900058000444 ?_
  refine jR (jtr (jrt (hv:=?_)))
  refine cB ?_
  unfold rightC inB
  (simp_all;omega)
 refine jq (jrfa 7 1 false) ?_;refine jU 5500250 ?_;refine jcc (fun h39=>?_) fun h39=>?_
 ·refine jU 516 ?_
  refine jR (jtr (jrt (hv:=?_)))
  refine cB ?_
  unfold rightC inB
  (simp_all;omega)
 refine jU 501006810 ?_
 refine jqe (jecP (rid_ac c.iss (by omega)) ?_)
 refine jU 1 ?_;refine jqsp 49 (fun g42=>?_) fun g42=>?_
 rotate_left
 ·refine jU 5150044415004441500444 ?_
  refine jR (jrt (hv:=?_))
  refine cB ?_
  unfold rightC inB
  (simp_all;done)
 refine jq (jrfa 8 1 false) ?_;refine jU 50 ?_
 refine jqe (jecP (rid_ac c.ky (by omega)) ?_)
 refine jU 18000 ?_;refine jqsp 54 (fun g42_2=>?_) fun g42_2=>?_
 rotate_left
 ·refine jU 515004441500444 ?_
  refine jR (jrt (hv:=?_))
  refine cB ?_
  unfold rightC inB
  (simp_all;done)
 refine jq (jrfa 3 3 true) ?_;refine jqo (jrdoA 3) ?_
 refine jqe (jecP (rright_ac c.who) ?_)
 refine jU 18000 ?_;refine jqsp 59 (fun g42_3=>?_) fun g42_3=>?_
 ·refine jq (jrfa 10 1 false) ?_;refine jU 50 ?_
  refine jqe (jecP (ralts_ac c.al) ?_)
  refine jU 518000 ?_
  refine jR (jrt (hv:=?_))
  refine cB ?_
  unfold rightC inB
  (simp_all;omega)
 refine jU 51500444 ?_
 refine jR (jrt (hv:=?_))
 refine cB ?_
 unfold rightC inB
 (simp_all;done)
end
section
def mB (at_:Nat):Nat:=if at_=0 then 2147483727 else 2147483647
def glueN (l:List Nat) (p:List Nat×Nat):List Nat×Nat:=if p.2≠0 then ([],p.2) else (l++p.1,0)
def ofN (l:List Nat):List Int:=l.map Int.ofNat
structure AtN (b:List UInt8) (a:Nat) (nums:List Nat):Prop where
 le:a≤b.length
 n0:nums.length≤a
 ne:a≠0→nums≠[]
 bd:∀ n ∈ nums,n≤2147483727
 eq:numsM 2147483727 b=glueN nums (numsM (mB a) (b.drop a))
end
section
open Go.RowKit Cal

end
section
open Go.RowKit Cal
def rightF (f:Fd) (v:V4):Bool :=
 if f.call=0 then rightS v.who else if f.call=3∨f.call=4 then decide (f.least≤v.n) && decide (v.n≤f.most) else
 if f.call=6 then decide (f.least≤(v.b.length:Nat)) && decide ((v.b.length:Nat)≤f.most) else if f.call=7 then labM v.t else
 if f.call=9 then decide (0≤v.n) && decide (v.n≤253402300799) else true
def rightFs:List Fd→List V4→Bool
 | f::fs,v::vs=>rightF f v && rightFs fs vs
 | _,_=>true
def specR (kind:Int) (vs:List V4):Bool :=
 if kind=2 then (decide ((vs.getD 5 V4.z).b.length=0) || decide (0<(vs.getD 4 V4.z).b.length)) && (decide ((vs.getD 4 V4.z).b.length=0) || decide ((vs.getD 3 V4.z).n=1))
 else if kind=3 then decide ((vs.getD 3 V4.z).n≤(vs.getD 4 V4.z).n) else true
def rightRec (kind:Int) (fs:List Fd) (vs:List V4):Bool:=rightFs fs vs && specR kind vs
def NormF (f:Fd) (v:V4):Prop:=(f.call=0∧v=⟨0,[],[],v.who⟩)∨((f.call=3∨f.call=4)∧v=⟨v.n,[],[],zeroS⟩)∨(f.call=6∧v=⟨0,[],v.b,zeroS⟩)∨(f.call=7∧v=⟨0,v.t,[],zeroS⟩)∨(f.call=9∧v=⟨v.n,[],[],zeroS⟩)
def NormFs:List Fd→List V4→Prop
 | [],[]=>True
 | f::fs,v::vs=>NormF f v∧NormFs fs vs
 | _,_=>False
def vE (kind:Int):VV:=⟨4,kind,false,[],[]⟩
def aK (kind:Int):AA:=⟨4,0,kind,kind⟩
def recX (kind:Int) (fs:List Fd) (vs:List V4):List (Int×List UInt8):=(10,putN kind)::List.zipWith fdX fs vs
def recB (kind:Int) (fs:List Fd) (vs:List V4):List UInt8:=putL 48 (putL 10 (putN kind)++encFs fs vs)
def putRec (kind:Int) (fs:List Fd) (vs:List V4):W8:=closeV (putFds fs vs (doW (vE kind) (doW (w1 48) w00)))
def rputRec (kind:Int) (fs:List Fd) (vs:List V4):R8:=rdoS w2 (rputFds fs vs (rdoS (vE kind) (rdoS (w1 48) r00)))
def KindOk (kind:Int):Prop:=0≤kind∧kind≤100
section
variable {kind:Int} {fs:List Fd} {vs:List V4}
end
def readRec (kind:Int) (fs:List Fd) (b:List UInt8):List V4×Nat :=
 let r1:=readR aL [b] (depthM b).2
 let r2:=readR (aK kind) r1.l r1.k
 let x:=readFs fs r2.l r2.k
 let r4:=readR aE x.1.1 x.1.2
 (x.2,endK r4.l r4.k)
def recM (kind:Int) (fs:List Fd) (b:List UInt8):List V4×Nat :=
 if (readRec kind fs b).2≠0 then (List.replicate fs.length V4.z,(readRec kind fs b).2) else if rightRec kind fs (readRec kind fs b).1=false then (List.replicate fs.length V4.z,4) else ((readRec kind fs b).1,0)
section
variable {kind:Int} {fs:List Fd} {vs:List V4}
end
def fsCase:List Fd:=[⟨0,0,0⟩,⟨6,1,4096⟩,⟨9,0,0⟩,⟨4,0,2⟩,⟨6,0,4096⟩,⟨6,0,4096⟩]
def fsAuth:List Fd:=[⟨3,1,1048576⟩,⟨6,16,64⟩,⟨4,1,4⟩,⟨9,0,0⟩,⟨9,0,0⟩,⟨9,0,0⟩,⟨3,0,1099511627776⟩]
def fsMark:List Fd:=[⟨3,1,1048576⟩,⟨3,1,1099511627776⟩,⟨9,0,0⟩,⟨9,0,0⟩]
def fsTick:List Fd:=[⟨7,1,24⟩,⟨6,32,32⟩,⟨9,0,0⟩]
def fsIss:List Fd:=[⟨6,1,4096⟩,⟨6,0,4096⟩]
instance (f:Fd):Decidable (OkF f):=by unfold OkF;infer_instance
def kindB (b:List UInt8):Int :=
 if (recM 2 fsCase b).2=0 then 2 else if (recM 3 fsAuth b).2=0 then 3 else if (recM 4 fsMark b).2=0 then 4 else if (recM 7 fsTick b).2=0 then 7 else if (recM 6 fsIss b).2=0 then 6 else 0
end
section
open Go.RowKit Cal

end
section
variable {gs:List Nat} [Ok9 gs]
open Go.RowKit Cal

def rqF (l:List (List UInt8)) (k:Nat):Nat→CV:=fl [lbC l,.c (.int .i64 (k:Nat))]
def rqE (n:Nat) (l:List (List UInt8)) (k:Nat):Option Nat×Res:=(some n,.blk 2 (rqF l k))
end
section
variable {gs:List Nat} [Ok9 gs]
open Go.RowKit Cal

def nxK8 (tag:Int) (l:List (List UInt8)):Nat:=if (nextM (nowL l)).e=0∧tag≠0∧((nextM (nowL l)).tag:Int)≠tag then 5 else (nextM (nowL l)).e
end
section
variable {gs:List Nat} [Ok9 gs]
open Go.RowKit Cal

def SaidQ (a:AA) (b:List UInt8):CV→List (Option Nat×Res)→Prop:=fun r H'=>(∃ v,r=.tup 2 (fl [valC v,.c (.int .i64 ((saidM a b).2:Nat))])∧((saidM a b).2=0→v=(saidM a b).1))∧H'=[]
def GetC (gs:List Nat) (P:Program) (f:FuncId):Prop:=∀ b:List UInt8,b.length≤1000000→ACp gs P f [bsC b] (.tup 2 (fl [isC (getA b).1,.c (.int .i64 ((getA b).2:Nat))]))
end
section
variable {gs:List Nat} [Ok9 gs]
open Go.RowKit Cal
end
section
variable {gs:List Nat}

theorem shr7 (N i:Nat) (hi:i≤5) {b:Int} (hb:b=7 * (i:Int)):(N:Int).fdiv (2 ^ (min b.toNat (IntKind.bits .i64)))=((N / 128 ^ i:Nat):Int):=by
 have e:b.toNat=7 * i:=by omega
 rw [e,show min (7 * i) (IntKind.bits .i64)=7 * i from Nat.min_eq_left (by show 7 * i≤64;omega),Int.fdiv_eq_ediv_of_nonneg _ (Int.pow_nonneg (by decide))]
 rw [show (128:Nat) ^ i=2 ^ (7 * i) by rw [Nat.pow_mul]]
 push_cast
 rfl
def preS (N k:Nat):List UInt8:=if k=0 then sepL N else sepHi (N / 128 ^ k)
theorem div_next (N i:Nat):N / 128 ^ (i+1)=N / 128 ^ i / 128:=by rw [Nat.pow_succ,Nat.div_div_eq_div_mul]
theorem sepHi_nil {m:Nat} (h:(sepHi m).length=0):m=0:=by
 by_cases h0:m=0
 ·exact h0
 ·rw [sepHi_pos h0] at h;simp at h
def sepD (q i:Nat):UInt8:=if i=0 then UInt8.ofNat (q % 128) else UInt8.ofNat (q % 128+128)
theorem sepD_hi {q i:Nat} (h:0<i):(q:Int) % 128+128=((sepD q i).toNat:Nat):=by
 rw [sepD,if_neg (by omega)];exact (sep_int2 q).symm
theorem sepD_lo {q i:Nat} (h:i=0):(q:Int) % 128=((sepD q i).toNat:Nat):=by
 rw [sepD,if_pos h];exact (sep_int q).symm
theorem pre_hi {N i q:Nat} {o:List UInt8} (hq:N / 128 ^ i=q) (ho:o=preS N (i+1)) (h0:0<i) (h:0<q % 128∨0<o.length):o++[UInt8.ofNat (q % 128+128)]=preS N i:=by
 have e1:preS N (i+1)=sepHi (q / 128):=by unfold preS;rw [if_neg (by omega),div_next,hq]
 have e2:preS N i=sepHi q:=by unfold preS;rw [if_neg (by omega),hq]
 have hq0:q≠0:=fun e=>by
  rw [e] at h e1
  rw [ho,e1,show (0:Nat) / 128=0 from rfl,sepHi_zero] at h
  rcases h with h|h
  ·exact absurd h (by decide)
  ·exact absurd h (by decide)
 rw [e2,ho,e1,sepHi_pos hq0]
theorem pre_lo {N q:Nat} {o:List UInt8} (hq:N / 128 ^ 0=q) (ho:o=preS N 1):o++[UInt8.ofNat (q % 128)]=preS N 0:=by
 have e0:q=N:=by rw [← hq,Nat.pow_zero,Nat.div_one]
 rw [ho,e0]
 rfl
theorem pre_no {N i q:Nat} {o:List UInt8} (hq:N / 128 ^ i=q) (ho:o=preS N (i+1)) (h0:0<i) (h1:¬ 0<q % 128) (h2:¬ 0<o.length):o=preS N i:=by
 have e1:preS N (i+1)=sepHi (q / 128):=by unfold preS;rw [if_neg (by omega),div_next,hq]
 have e2:preS N i=sepHi q:=by unfold preS;rw [if_neg (by omega),hq]
 have e3:q / 128=0:=sepHi_nil (by rw [← e1,← ho];omega)
 have e4:q=0:=by omega
 rw [ho,e1,e2,e3,e4]
theorem pre_len {N k:Nat} (hN:N<34359738368) (hk:k≤6):(preS N k).length≤5:=by
 unfold preS
 split
 ·exact sepL_len hN
 ·have h1:N / 128 ^ k≤N:=Nat.div_le_self _ _
  exact sepHi_len 5 _ (by omega)
set_option maxHeartbeats 1000000 in
theorem rsep_ac (N:Nat) (hN:N<34359738368):AC gs Tryz.prog 250 [] [.c (.int .i64 (N:Nat))] (OwnQ (sepL N).length 1 (sepL N).length (byF (sepL N))):=by
 refine ac_of 38 Tryz.func250 rfl rfl rfl (fun al w0 F0 St0=>?_)
 refine jU 6516 ?_
 refine jqe (jebl 0 1 zr5 fun p1=>?_)
 refine jU 20516751 ?_;refine l_loop (α:=Nat×List UInt8×Option Nat) [3,4,5,7,8,9,10,11,12,13,14,15,16,17,18,19,20,21,22,23,24,25,26,27,28,29,30,31,32,33,34,35,36] (fun (k,o,g)=>[(4,.c (.int .i64 ((k:Int)-1))),(3,.os 0 g 0 o.length 1)]) (fun (k,o,g)=>[(g,.blk o.length (byF o))]) (fun (k,o,g)=>k≤6∧o=preS N k) (fun (k,o,g)=>k) ((6,[],p1)) ?_ (fun _=>rfl) ?_ ?_ ?_
 ·exact ⟨Nat.le_refl _,by unfold preS;rw [if_neg (by decide),show N / 128 ^ 6=0 by omega,sepHi_zero]⟩
 ·exact .cons cZ (.cons cZ .nil)
 ·exact .blk rfl (fun j hj=>absurd hj (Nat.not_lt_zero j)) .nil
 ·rintro ⟨k,o,g⟩ ⟨(hk:k≤6),(ho:o=_)⟩
  have hol:o.length≤5:=by rw [ho];exact pre_len hN hk
  refine jU 52167 ?_;refine jcc (fun h65=>?_) fun h65=>?_
  rotate_left
  ·refine jU 84000200020006000 ?_
   obtain rfl:k=0:=by omega
   obtain rfl:o=sepL N:=ho
   refine jU 70005116 ?_
   exact end_O 0 (.inl rfl) (res_1 rfl (arv_tmp rfl)) rfl rfl (Nat.le_refl _) (fun _=>rfl) (fun j hj=>cZ)
  refine jU 207810 ?_
  obtain ⟨i,rfl⟩:∃ i,k=i+1:=⟨k-1,by omega⟩
  obtain ⟨q,hq⟩:∃ q,N / 128 ^ i=q:=⟨_,rfl⟩
  refine jU 9116 ?_;refine jq (jrv .i64 .u64) ?_;refine jq (rd_shr rfl rfl rfl (by (omega)) ((q:Int)) (by rw [← hq];exact shr7 N i (by omega) (by omega))) ?_;refine jU 1216511000000 ?_;refine jqsp 19 (fun g67=>?_) fun g67=>?_
  ·refine jU 521679000580004418000444 ?_;refine jcc (fun h68=>?_) fun h68=>?_
   rotate_left
   ·refine jU 80000011200810 ?_
    refine jqe (jebl 1 1 zr5 fun p2=>?_)
    refine jqm (m_appendB (l2:=[sepD q i]) rfl rfl rfl (Nat.le_refl _) (fun _ _=>cZ) (src_os rfl (.inl rfl) (by decide)) rfl (hh_bytes (.cons (cI (by exact sepD_lo (by omega))) .nil)) Tryz.underlying22 nu22 sz5 zr5 by5 rfl (by (simp;omega)) (leaf_fl rfl rfl) rfl rfl (fun p3=>?_))
    refine jU 85191200840051 ?_
    refine jlend ((i,o++[sepD q i],p3)) ?_ ?_ (h5:=?_) (h7:=?_)
    ·exact ⟨by omega,by obtain rfl:i=0:=(by omega);rw [sepD,if_pos rfl];exact pre_lo hq ho⟩
    ·show i<i+1;omega
    ·exact .cons (cI (by omega)) (.cons cZ .nil)
    ·exact .same .nil
   refine jU 8000001120085191200 ?_
   refine jqe (jebl 1 1 zr5 fun p2=>?_)
   refine jqm (m_appendB (l2:=[sepD q i]) rfl rfl rfl (Nat.le_refl _) (fun _ _=>cZ) (src_os rfl (.inl rfl) (by decide)) rfl (hh_bytes (.cons (cI (by exact sepD_hi (by omega))) .nil)) Tryz.underlying22 nu22 sz5 zr5 by5 rfl (by (simp;omega)) (leaf_fl rfl rfl) rfl rfl (fun p3=>?_))
   refine jU 85191200840051 ?_
   refine jlend ((i,o++[sepD q i],p3)) ?_ ?_ (h5:=?_) (h7:=?_)
   ·exact ⟨by omega,by (rw [sepD,if_neg (by omega)];exact pre_hi hq ho (by omega) (by omega))⟩
   ·show i<i+1;omega
   ·exact .cons (cI (by omega)) (.cons cZ .nil)
   ·exact .same .nil
  refine jU 1500231 ?_;refine jqsp 24 (fun g67_2=>?_) fun g67_2=>?_
  ·refine jU 5216790005800044 ?_;refine jcc (fun h68=>?_) fun h68=>?_
   rotate_left
   ·refine jU 80000011200810 ?_
    refine jqe (jebl 1 1 zr5 fun p2=>?_)
    refine jqm (m_appendB (l2:=[sepD q i]) rfl rfl rfl (Nat.le_refl _) (fun _ _=>cZ) (src_os rfl (.inl rfl) (by decide)) rfl (hh_bytes (.cons (cI (by exact sepD_lo (by omega))) .nil)) Tryz.underlying22 nu22 sz5 zr5 by5 rfl (by (simp;omega)) (leaf_fl rfl rfl) rfl rfl (fun p3=>?_))
    refine jU 85191200840051 ?_
    refine jlend ((i,o++[sepD q i],p3)) ?_ ?_ (h5:=?_) (h7:=?_)
    ·exact ⟨by omega,by obtain rfl:i=0:=(by omega);rw [sepD,if_pos rfl];exact pre_lo hq ho⟩
    ·show i<i+1;omega
    ·exact .cons (cI (by omega)) (.cons cZ .nil)
    ·exact .same .nil
   refine jU 8000001120085191200 ?_
   refine jqe (jebl 1 1 zr5 fun p2=>?_)
   refine jqm (m_appendB (l2:=[sepD q i]) rfl rfl rfl (Nat.le_refl _) (fun _ _=>cZ) (src_os rfl (.inl rfl) (by decide)) rfl (hh_bytes (.cons (cI (by exact sepD_hi (by omega))) .nil)) Tryz.underlying22 nu22 sz5 zr5 by5 rfl (by (simp;omega)) (leaf_fl rfl rfl) rfl rfl (fun p3=>?_))
   refine jU 85191200840051 ?_
   refine jlend ((i,o++[sepD q i],p3)) ?_ ?_ (h5:=?_) (h7:=?_)
   ·exact ⟨by omega,by (rw [sepD,if_neg (by omega)];exact pre_hi hq ho (by omega) (by omega))⟩
   ·show i<i+1;omega
   ·exact .cons (cI (by omega)) (.cons cZ .nil)
   ·exact .same .nil
  refine jU 550021 ?_;refine jcc (fun h67=>?_) fun h67=>?_
  rotate_left
  ·refine jU 85191200840010 ?_
   refine jlend ((i,o,g)) ?_ ?_ (h5:=?_) (h7:=?_)
   ·exact ⟨by omega,pre_no hq ho (by omega) (by omega) (by omega)⟩
   ·show i<i+1;omega
   ·exact .cons (cI (by omega)) (.cons cZ .nil)
   ·exact .same .nil
  refine jU 52167 ?_;refine jcc (fun h68=>?_) fun h68=>?_
  rotate_left
  ·refine jU 80000011200810 ?_
   refine jqe (jebl 1 1 zr5 fun p2=>?_)
   refine jqm (m_appendB (l2:=[sepD q i]) rfl rfl rfl (Nat.le_refl _) (fun _ _=>cZ) (src_os rfl (.inl rfl) (by decide)) rfl (hh_bytes (.cons (cI (by exact sepD_lo (by omega))) .nil)) Tryz.underlying22 nu22 sz5 zr5 by5 rfl (by (simp;omega)) (leaf_fl rfl rfl) rfl rfl (fun p3=>?_))
   refine jU 85191200840051 ?_
   refine jlend ((i,o++[sepD q i],p3)) ?_ ?_ (h5:=?_) (h7:=?_)
   ·exact ⟨by omega,by obtain rfl:i=0:=(by omega);rw [sepD,if_pos rfl];exact pre_lo hq ho⟩
   ·show i<i+1;omega
   ·exact .cons (cI (by omega)) (.cons cZ .nil)
   ·exact .same .nil
  refine jU 8000001120085191200 ?_
  refine jqe (jebl 1 1 zr5 fun p2=>?_)
  refine jqm (m_appendB (l2:=[sepD q i]) rfl rfl rfl (Nat.le_refl _) (fun _ _=>cZ) (src_os rfl (.inl rfl) (by decide)) rfl (hh_bytes (.cons (cI (by exact sepD_hi (by omega))) .nil)) Tryz.underlying22 nu22 sz5 zr5 by5 rfl (by omega) (leaf_fl rfl rfl) rfl rfl (fun p3=>?_))
  refine jU 85191200840051 ?_
  refine jlend ((i,o++[sepD q i],p3)) ?_ ?_ (h5:=?_) (h7:=?_)
  ·exact ⟨by omega,by (exfalso;omega)⟩
  ·show i<i+1;omega
  ·exact .cons (cI (by omega)) (.cons cZ .nil)
  ·exact .same .nil
set_option maxHeartbeats 1000000 in
theorem rputO_ac (l:List Int) (hr:rightA l=true):ACp gs Tryz.prog 213 [isC l] (bsC (putA l)):=by
 obtain ⟨hl2,hl16,hall,ha,hb⟩:=right_at hr
 have h0:=hall _ (getD_mem' (l:=l) (k:=0) 0 (by omega))
 have h1:=hall _ (getD_mem' (l:=l) (k:=1) 0 (by omega))
 refine ac_of 28 Tryz.func213 rfl rfl rfl (fun al w0 F0 St0=>?_)
 refine jU 7516 ?_;refine jcd (.rd 0 (.rd 1 (.rd 2 (.rd 3 (.rd 4 (.rd 5 (.rd 6 (.rd 7 (.one 8 (.rd 9 .done)))))))))) ?_;refine jU 70 ?_;refine jyq (jri (i:=0)) ?_;refine jU 703000070000 ?_;refine jyq (jri (i:=1)) ?_;refine jU 3000070000 ?_
 refine jye (jecO (rsep_ac (40 * l.getD 0 0+l.getD 1 0).toNat (by omega)) (fun p1=>?_) (ho:=rfl) (he:=(.cons (se rfl (cI (by omega))) .nil)))
 refine jU 16788070 ?_;refine jq (jrsr (hl:=(bd_some rfl (show (2:Int)=((2:Nat):Int) from rfl))) (hu:=(bd_none _ _))) ?_;refine jU 20513 ?_;refine l_loop (α:=Nat×List UInt8×Option Nat) [3,5,18,19,20,21,22,23,24,25,26] (fun (i,o,g)=>[(3,.os 0 g 0 o.length 1),(18,.c (.int .i64 (i:Nat)))]) (fun (i,o,g)=>[(g,.blk o.length (byF o))]) (fun (i,o,g)=>i≤l.length-2∧o=sepL (40 * l.getD 0 0+l.getD 1 0).toNat++(((l.drop 2).take i).map fun n=>sepL n.toNat).flatten) (fun (i,o,g)=>l.length-i) ((0,sepL (40 * l.getD 0 0+l.getD 1 0).toNat,p1)) ?_ (fun _=>rfl) ?_ ?_ ?_
 ·exact ⟨Nat.zero_le _,by simp⟩
 ·exact .cons cZ (.cons cZ .nil)
 ·exact .same .nil
 ·rintro ⟨i,o,g⟩ ⟨(hi:i≤l.length-2),ho⟩
  have hol:o.length≤5+5 * i:=by
   rw [ho,List.length_append]
   have e1:=sepL_len (n:=(40 * l.getD 0 0+l.getD 1 0).toNat) (by omega)
   have e2:=sep_flat_len (l:=(l.drop 2).take i) (fun n hn=>hall n (List.mem_of_mem_drop (List.mem_of_mem_take hn)))
   rw [List.length_take,List.length_drop] at e2
   omega
  refine jU 7526 ?_;refine jcc (fun h80=>?_) fun h80=>?_
  rotate_left
  ·refine jU 511684000200020006000 ?_;refine jE (freeze 0 rfl) ?_;refine jE (thawB 2 (o) rfl rfl (by rfl) rfl) ?_
   refine jR (jrt (hv:=?_))
   refine CEnt.bs ?_
   rw [ho,List.take_of_length_le (by rw [List.length_drop];omega)]
   rfl
  refine jU 51607006207810 ?_
  have h3:=hall _ (getD_mem' (l:=l) (k:=2+i) 0 (by omega))
  have h4:=sepL_len (n:=(l.getD (2+i) 0).toNat) (by omega)
  refine jU 11200 ?_
  refine jqe (jecO (rsep_ac (l.getD (2+i) 0).toNat (by omega)) (fun p2=>?_) (ho:=rfl) (he:=(.cons (se rfl (cI (by omega))) .nil)))
  refine jqm (m_appendB rfl rfl rfl (Nat.le_refl _) (fun _ _=>cZ) (src_os rfl (.inl rfl) (by omega)) rfl (fun j hj=>by rw [Nat.zero_add];exact cZ) Tryz.underlying22 nu22 sz5 zr5 by5 rfl (by omega) (fun j hj=>rfl) rfl rfl (fun p3=>?_))
  refine jU 8519200840051 ?_
  refine jlend ((i+1,o++sepL (l.getD (2+i) 0).toNat,p3)) ?_ ?_ (h5:=?_) (h7:=?_)
  ·exact ⟨by omega,by rw [ho,sep_take (by rw [List.length_drop];omega),List.append_assoc]⟩
  ·show l.length-(i+1)<l.length-i;omega
  ·exact .cons cZ (.cons (cI (by omega)) .nil)
  ·exact .same .nil
end
section
open Go.RowKit Cal
set_option maxHeartbeats 1000000 in
theorem rbody78_ac {gs:List Nat} (v:VV) (hv:OkV v) (h78:v.kind=7∨v.kind=8):AC gs Tryz.prog 157 [] [valC v] (BodyQ v):=by
 have hvt:=hv.t
 refine ac_of 77 Tryz.func157 rfl rfl rfl (fun al w0 F0 St0=>?_)
 refine jcr ?_
 refine jqe (jebx 5 fun p1=>?_)
 refine jU 51262055090675111 ?_;refine jcc (fun h31=>?_) fun h31=>?_
 ·exfalso;omega
 refine jU 5126 ?_;refine jcc (fun h33=>?_) fun h33=>?_
 ·exfalso;omega
 refine jU 5126 ?_;refine jcc (fun h35=>?_) fun h35=>?_
 ·exfalso;omega
 refine jU 5126 ?_;refine jcc (fun h40=>?_) fun h40=>?_
 ·exfalso;omega
 refine jU 5126 ?_;refine jcc (fun h42=>?_) fun h42=>?_
 ·refine jcs ?_;refine jcd (.rd 0 (.rd 1 (.rd 3 (.rd 4 (.rd 5 (.rd 6 (.two 2 (.one 7 (.rd 8 (.rd 9 (.rd 10 .done)))) 7 (.rd 8 (.one 2 (.rd 9 (.rd 10 .done))))))))))) ?_;refine jyq (jrfa 4 1 false) ?_;refine jyo jrdo ?_;refine jyq (jrfa 4 1 false) ?_;refine jU 10000800000010000 ?_;refine jytwo ?_ ?_
  ·refine jye (jecv ?_)
   refine jye (jecP (rasked_ac v.t v.n (by omega)) ?_)
   refine jU 300050007000880707070 ?_
   exact end_ownV (.inl rfl) [] (by decide) rfl (res_3 rfl javt javt javt) cZ (bodyQ (b':=v.t) (by unfold bodyV;rw [if_neg (by omega),if_neg (by omega),if_neg (by omega),if_neg (by omega),if_pos (by omega)]) (fun h=>by rw [if_pos h]))
  ·refine jye (jecP (rasked_ac v.t v.n (by omega)) ?_)
   refine jU 70 ?_
   refine jye (jecv ?_)
   refine jU 3000500070008807070 ?_
   exact end_ownV (.inl rfl) [] (by decide) rfl (res_3 rfl javt javt javt) cZ (bodyQ (b':=v.t) (by unfold bodyV;rw [if_neg (by omega),if_neg (by omega),if_neg (by omega),if_neg (by omega),if_pos (by omega)]) (fun h=>by rw [if_pos h]))
 refine jU 5126 ?_;refine jcc (fun h44=>?_) fun h44=>?_
 rotate_left
 ·exfalso;omega
 refine jU 5070000006 ?_
 refine jqe (jecP (rparse_ac v.t (by omega)) ?_)
 refine jU 521675119009001 ?_;refine jcc (fun h46=>?_) fun h46=>?_
 ·refine jU 3000500030007000511116 ?_
  exact end_ownV (.inl rfl) [] (by decide) rfl (res_3 rfl javt javt javt) (CEnt.tup3 cZ cN cZ) (bodyQ (by unfold bodyV;rw [if_neg (by omega),if_neg (by omega),if_neg (by omega),if_neg (by omega),if_neg (by omega),if_pos (by omega)]) (fun h=>by omega))
 refine jU 810 ?_
 have hp0:(parseM v.t).2=0:=by omega
 refine jU 16 ?_
 refine jqe (jecP (rputO_ac (parseM v.t).1 (parse_ok hp0)) ?_)
 refine jU 3000500070005111 ?_
 exact end_ownV (.inl rfl) [] (by decide) rfl (res_3 rfl javt javt javt) cZ (bodyQ (e:=0) (by unfold bodyV;rw [if_neg (by omega),if_neg (by omega),if_neg (by omega),if_neg (by omega),if_neg (by omega),if_pos (by omega),hp0]) (fun h=>by unfold putM;rw [if_pos hp0]))
theorem rdoW78_ac {gs:List Nat} (n:Nat) (s:R8) (v:VV) (hs:OkRD s) (hv:OkV v) (hk:v.kind=1∨v.kind=2∨v.kind=7∨v.kind=8):AC gs Tryz.prog 80 [rwO n s] [.op 0 (some n) 0,valC v] (fun r H'=>r=.c (.tuple #[])∧H'=[rwO n (rdoS v s)]):=rdoWB_ac n s v hs hv fun h1 h2 _=>rbody78_ac v hv (by omega)
end
section
variable {gs:List Nat} [OkG gs] [OkT gs]
open Go.RowKit Cal

theorem rputS_bad {s:S3} {r:R8} (h:r.e≠0):rputS9 s r=r:=by
 unfold rputS9
 split
 ·exact rdoAll_bad _ h
 ·rfl
set_option maxHeartbeats 4000000 in
theorem rnput_ac {gs:List Nat} (n:Nat) {i0:Nat} {r:R8} {w:W8} (hI:Inv8 i0 r w) (hi0:i0≤800) (s:S3):AC gs Tryz.prog 81 [rwO n r] [.op 0 (some n) 0,subjC s] (fun x H'=>x=.c (.tuple #[])∧H'=[rwO n (rputS9 s r)]):=by
 have I1:=inv_do hI (small_w1 (t:=48) (by decide))
 refine ac_of 54 Tryz.func81 rfl rfl rfl (fun al w0 F0 St0=>?_)
 refine jcr ?_
 refine jqe (jebx 3 fun p1=>?_)
 refine jU 5 ?_;refine code_openRW 0 rfl fun gr=>?_;refine code_join (α:=Unit) [6,7,8,9,10,11,12,13,14,15,16,17,18] (fun _=>[]) (fun _=>[(some n,.blk 3 (rwB ⟨r.tags,r.rows,if r.e=0∧rightS s=false then 9 else r.e⟩ 2 gr)),(p1,.blk 3 (sF s)),(gr,.blk r.rows.length (rowsF r.rows))]) (fun _=>True) (fun _=>rfl) ?_ ?_
 ·refine jU 125010004016 ?_;refine jqsp 11 (fun g95=>?_) fun g95=>?_
  rotate_left
  ·refine jU 8103005500444 ?_
   refine jjend (()) ?_ (h5:=?_) (h7:=?_)
   ·trivial
   ·exact .nil
   ·show HEnt _ [(some n,.blk 3 (rwB ⟨r.tags,r.rows,if r.e=0∧rightS s=false then 9 else r.e⟩ 2 gr)),(p1,.blk 3 (sF s)),(gr,.blk r.rows.length (rowsF r.rows))]
    first
    |(rw [if_pos ⟨by omega,by simp_all⟩];exact HEnt.refl _)
    |(rw [if_neg (by rintro ⟨_,h⟩;simp_all)];exact HEnt.refl _)
    |(rw [if_neg (by omega)];exact HEnt.refl _)
  refine jqo (jrdoA 3) ?_
  refine jqe (jecP (rright_ac s) ?_)
  refine jU 5800030 ?_;refine jcc (fun h95=>?_) fun h95=>?_
  rotate_left
  ·refine jU 810 ?_
   refine jjend (()) ?_ (h5:=?_) (h7:=?_)
   ·trivial
   ·exact .nil
   ·show HEnt _ [(some n,.blk 3 (rwB ⟨r.tags,r.rows,if r.e=0∧rightS s=false then 9 else r.e⟩ 2 gr)),(p1,.blk 3 (sF s)),(gr,.blk r.rows.length (rowsF r.rows))]
    first
    |(rw [if_pos ⟨by omega,by simp_all⟩];exact HEnt.refl _)
    |(rw [if_neg (by rintro ⟨_,h⟩;simp_all)];exact HEnt.refl _)
    |(rw [if_neg (by omega)];exact HEnt.refl _)
  refine jU 1000401200 ?_
  refine jqm (jmstF 1 (rwB ⟨r.tags,r.rows,9⟩ 2 gr) ?_ ?_)
  ·exact (fun j hj=>by rcases j with _|_|_|j <;> exact cZ)
  refine jU 85 ?_
  refine jjend (()) ?_ (h5:=?_) (h7:=?_)
  ·trivial
  ·exact .nil
  ·show HEnt _ [(some n,.blk 3 (rwB ⟨r.tags,r.rows,if r.e=0∧rightS s=false then 9 else r.e⟩ 2 gr)),(p1,.blk 3 (sF s)),(gr,.blk r.rows.length (rowsF r.rows))]
   first
   |(rw [if_pos ⟨by omega,by simp_all⟩];exact HEnt.refl _)
   |(rw [if_neg (by rintro ⟨_,h⟩;simp_all)];exact HEnt.refl _)
   |(rw [if_neg (by omega)];exact HEnt.refl _)
 ·rintro u _
  obtain ⟨e0,he0⟩:∃ e0,e0=(if r.e=0∧rightS s=false then 9 else r.e):=⟨_,rfl⟩
  have hbad:e0≠0→rputS9 s r=⟨r.tags,r.rows,e0⟩:=fun h=>by
   by_cases hc:r.e=0∧rightS s=false
   ·rw [if_pos hc] at he0
    unfold rputS9
    rw [if_neg (by rw [hc.2];decide),if_pos hc.1,he0]
   ·rw [if_neg hc] at he0
    rw [rputS_bad (by omega),he0]
  have hgood:e0=0→r.e=0∧rightS s=true:=fun h=>by
   by_cases hc:r.e=0∧rightS s=false
   ·rw [if_pos hc] at he0;omega
   ·rw [if_neg hc] at he0
    refine ⟨by omega,?_⟩
    cases hb:rightS s with
    | true=>rfl
    | false=>exact absurd ⟨by omega,hb⟩ hc
  rw [← he0]
  refine jU 5250100040167 ?_;refine jcc (fun h98=>?_) fun h98=>?_
  ·refine jU 30007000 ?_
   rw [hbad (by have h:((e0:Nat):Int)≠0:=h98;omega)]
   exact end_closeRW (.inl rfl) n ⟨r.tags,r.rows,e0⟩ 2 (res_0 rfl) cZ rfl rfl rfl (by exact cZ) (by exact cO rfl) (by exact cZ) (Nat.le_refl _) (fun _ _=>by exact cZ)
  refine jU 810 ?_
  obtain ⟨hre,hr⟩:=hgood (by have h:¬ (((e0:Nat):Int)≠0):=h98;omega)
  obtain ⟨hg1,hg2⟩:=good_parts hr
  have hG:∀ j,j≤(partsS s).length→∃ w',Inv8 (i0+1+4 * j) (rdoAll (((partsS s).take j).flatMap pv) (rdoS (w1 48) r)) w':=fun j hj=>by
   refine ⟨_,inv_mono (inv_all (((partsS s).take j).flatMap pv) I1 fun v hv=>?_) ?_⟩
   ·obtain ⟨p,hp,hv⟩:=List.mem_flatMap.1 hv
    have h:=hg1 p (List.mem_of_mem_take hp)
    exact small_pv (by omega) (by omega) v hv
   ·rw [pvs_len,List.length_take];omega
  have hS:∀ j,j<(partsS s).length→rdoAll (((partsS s).take (j+1)).flatMap pv) (rdoS (w1 48) r)=rdoAll (pv ((partsS s).getD j ([],[]))) (rdoAll (((partsS s).take j).flatMap pv) (rdoS (w1 48) r)):=fun j hj=>by
   rw [List.take_succ_eq_append_getElem hj,List.flatMap_append,rdoAll_app,List.getD_eq_getElem?_getD,List.getElem?_eq_getElem hj]
   simp
  have hE:rputS9 s r=rdoS w2 (rdoAll ((partsS s).flatMap pv) (rdoS (w1 48) r)):=by
   unfold rputS9
   rw [if_pos hr]
   show rdoAll ((partsS s).flatMap pv++[w2]) (rdoS (w1 48) r)=_
   rw [rdoAll_app]
   rfl
  refine jE (closeRW n r 0 2 rfl rfl rfl cZ (cO rfl) (cI (by omega)) (Nat.le_refl _) (fun _ _=>cZ)) ?_;refine jE (pick_ent (H':=[rwO n r,(p1,.blk 3 (sF s))]) [0,1] (by decide) rfl) ?_;refine jU 16 ?_;refine jq (rd_build (n:=5) rfl zr130 pl130 rfl rfl) ?_
  refine jqm (jmcH 0 (rdoW78_ac n r (w1 48) (inv_okR hI (by omega)) (small_w1 (by decide)).ok (.inl rfl)) ?_ (ho:=rfl) (he:=(.cons (se rfl cP) (.cons (se rfl (CEnt.agg rfl (fun j hj=>by rcases j with _|_|_|_|_|j <;> first|exact cZ|exact cN))) .nil))))
  rintro _ _ ⟨rfl,rfl⟩
  refine ⟨_,_,rfl,cZ,?_⟩
  refine jU 675 ?_;refine jqo (jrdoA 3) ?_
  refine jqe (jecP (rparts_ac s hr) ?_)
  refine jU 20513 ?_;refine l_loop (α:=Nat) [5,30,31,32,33,34,35,36,37,38,39,40,41,42,43,44,45,46,47,48,49,50] (fun i=>[(30,.c (.int .i64 (i:Nat)))]) (fun i=>[rwO n (rdoAll (((partsS s).take i).flatMap pv) (rdoS (w1 48) r)),(p1,.blk 3 (sF s))]) (fun i=>i≤(partsS s).length) (fun i=>(partsS s).length-i) (0) ?_ (fun _=>rfl) ?_ ?_ ?_
  ·exact Nat.zero_le _
  ·exact .cons cZ .nil
  ·exact HEnt.refl _
  ·rintro i (hi:i≤(partsS s).length)
   refine jU 7526 ?_;refine jcc (fun h102=>?_) fun h102=>?_
   rotate_left
   ·refine jU 84000200020006000 ?_
    have hie:i=(partsS s).length:=by omega
    obtain ⟨w',J0⟩:=hG i hi
    subst hie
    rw [List.take_length] at *
    refine jU 1200 ?_;refine jq (rd_build (n:=5) rfl zr130 pl130 rfl rfl) ?_
    refine jqm (jmcH 0 (rdoW78_ac n _ w2 (inv_okR J0 (by omega)) small_w2.ok (.inr (.inl rfl))) ?_ (ho:=rfl) (he:=(.cons (se rfl cP) (.cons (se rfl (CEnt.agg rfl (fun j hj=>by rcases j with _|_|_|_|_|j <;> first|exact cZ|exact cN))) .nil))))
    rintro _ _ ⟨rfl,rfl⟩
    refine ⟨_,_,rfl,cZ,?_⟩
    refine jU 5 ?_
    rw [hE]
    exact end_H (.inr rfl) rfl (res_0 rfl) cZ
   refine jU 7006207810 ?_;refine jq (jrdrA 2) ?_
   refine jqe (jeal (n:=2) zr212 rfl fun p3=>?_)
   refine jqm (jmstF 2 (partE ((partsS s).getD i ([],[]))) ?_ ?_)
   ·exact (fun j hj=>by rcases j with _|_|j <;> first|exact cZ|omega)
   refine jU 5 ?_
   have hm:(partsS s).getD i ([],[]) ∈ partsS s:=by
    rw [List.getD_eq_getElem?_getD,List.getElem?_eq_getElem (by omega)]
    exact List.getElem_mem _
   obtain ⟨_,hp1,hp2⟩:=hg1 _ hm
   obtain ⟨w',J0⟩:=hG i hi
   have J1:=inv_do J0 (small_w1 (t:=48) (by decide))
   have J2:=inv_do J1 (small_v8 (t:=((partsS s).getD i ([],[])).1) (by omega))
   have J3:=inv_do J2 (small_v7 (t:=((partsS s).getD i ([],[])).2) (by omega))
   refine jU 16 ?_;refine jq (rd_build (n:=5) rfl zr130 pl130 rfl rfl) ?_
   refine jqm (jmcH 0 (rdoW78_ac n _ (w1 48) (inv_okR J0 (by omega)) (small_w1 (by decide)).ok (.inl rfl)) ?_ (ho:=rfl) (he:=(.cons (se rfl cP) (.cons (se rfl (CEnt.agg rfl (fun j hj=>by rcases j with _|_|_|_|_|j <;> first|exact cZ|exact cN))) .nil))))
   rintro _ _ ⟨rfl,rfl⟩
   refine ⟨_,_,rfl,cZ,?_⟩
   refine jU 5090165 ?_;refine jq (rd_build (n:=5) rfl zr130 pl130 rfl rfl) ?_
   refine jqm (jmcH 0 (rdoW78_ac n _ (v8 ((partsS s).getD i ([],[])).1) (inv_okR J1 (by omega)) (small_v8 (by omega)).ok (.inr (.inr (.inr rfl)))) ?_ (ho:=rfl) (he:=(.cons (se rfl cP) (.cons (se rfl (CEnt.agg rfl (fun j hj=>by rcases j with _|_|_|_|_|j <;> first|exact cZ|exact cN))) .nil))))
   rintro _ _ ⟨rfl,rfl⟩
   refine ⟨_,_,rfl,cZ,?_⟩
   refine jU 50100165 ?_;refine jq (rd_build (n:=5) rfl zr130 pl130 rfl rfl) ?_
   refine jqm (jmcH 0 (rdoW78_ac n _ (v7 ((partsS s).getD i ([],[])).2 64) (inv_okR J2 (by omega)) (small_v7 (by omega)).ok (.inr (.inr (.inl rfl)))) ?_ (ho:=rfl) (he:=(.cons (se rfl cP) (.cons (se rfl (CEnt.agg rfl (fun j hj=>by rcases j with _|_|_|_|_|j <;> first|exact cZ|exact cN))) .nil))))
   rintro _ _ ⟨rfl,rfl⟩
   refine ⟨_,_,rfl,cZ,?_⟩
   refine jU 12005 ?_;refine jq (rd_build (n:=5) rfl zr130 pl130 rfl rfl) ?_
   refine jqm (jmcH 0 (rdoW78_ac n _ w2 (inv_okR J3 (by omega)) small_w2.ok (.inr (.inl rfl))) ?_ (ho:=rfl) (he:=(.cons (se rfl cP) (.cons (se rfl (CEnt.agg rfl (fun j hj=>by rcases j with _|_|_|_|_|j <;> first|exact cZ|exact cN))) .nil))))
   rintro _ _ ⟨rfl,rfl⟩
   refine ⟨_,_,rfl,cZ,?_⟩
   refine jU 851920084005 ?_
   refine jlend (i+1) ?_ ?_ (h5:=?_) (h7:=?_)
   ·show i+1≤(partsS s).length;omega
   ·show (partsS s).length-(i+1)<(partsS s).length-i;omega
   ·exact .cons (cI (by omega)) .nil
   ·rw [hS i (by omega)];exact HEnt.refl _
def zS:Nat→CV:=fun _=>.top
end
section
variable {gs:List Nat} [OkG gs] [OkT gs]
open Go.RowKit Cal

section
variable (n:Nat) (l:List (List UInt8)) (k:Nat)
theorem subF_ac {gs:List Nat} [OkG gs] [OkT gs] (f:Fd) (hc:f.call=0) (hl:0<l.length∧l.length≤100000) (hb:muS l k≤100000):AC gs Tryz.prog 116 [rdO n l k] [.op 0 (some n) 0] (fun r H'=>r=subjC (readF f l k).2.who∧H'=[rdO n (readF f l k).1.1 (readF f l k).1.2]):=by
 have h:=nget_ac (gs:=gs) n l k hl (mu_sum hb)
 have e:readF f l k=((getS l k).1,⟨0,[],[],(getS l k).2⟩):=by unfold readF;rw [if_pos hc]
 rw [e]
 exact h
theorem readF_g {f:Fd} (hc:f.call≠0):readF f l k=(((readR (fdA f) l k).l,(readR (fdA f) l k).k),⟨(readR (fdA f) l k).v.n,(readR (fdA f) l k).v.t,(readR (fdA f) l k).v.b,zeroS⟩):=by unfold readF;rw [if_neg hc]
theorem octF_ac {gs:List Nat} [Ok9 gs] (least most:Int) (hl:0<l.length∧l.length≤1000000) (hb:(nowL l).length≤10000000):AC gs Tryz.prog 66 [rdO n l k] [.op 0 (some n) 0,.c (.int .i64 least),.c (.int .i64 most)] (fun r H'=>r=bsC (readF ⟨6,least,most⟩ l k).2.b∧H'=[rdO n (readF ⟨6,least,most⟩ l k).1.1 (readF ⟨6,least,most⟩ l k).1.2]):=by
 have h:=octets08_ac (gs:=gs) n l k least most hl hb
 rw [readF_g l k (show ¬ (6:Int)=0 by decide),readR_g vB [] rfl (t:=4) (f:=octM least most) (by show ¬ (6:Int)=1;decide) (by show ¬ (6:Int)=2;decide) (by show ¬ (6:Int)=11;decide) (by funext b;rfl) rfl]
 exact h
theorem momF_ac {gs:List Nat} [Ok9 gs] (least most:Int) (hl:0<l.length∧l.length≤1000000) (hb:(nowL l).length≤10000000):AC gs Tryz.prog 117 [rdO n l k] [.op 0 (some n) 0] (fun r H'=>r=.c (.int .i64 (readF ⟨9,least,most⟩ l k).2.n)∧H'=[rdO n (readF ⟨9,least,most⟩ l k).1.1 (readF ⟨9,least,most⟩ l k).1.2]):=by
 have h:=moment08_ac (gs:=gs) n l k hl hb
 rw [readF_g l k (show ¬ (9:Int)=0 by decide),readR_g vN 0 rfl (t:=24) (f:=fun b=>(getV b,getE b)) (by show ¬ (9:Int)=1;decide) (by show ¬ (9:Int)=2;decide) (by show ¬ (9:Int)=11;decide) (by funext b;rfl) rfl]
 exact h
theorem intF_ac {gs:List Nat} [Ok9 gs] (least most:Int) (hl:0<l.length∧l.length≤1000000) (hb:(nowL l).length≤10000000):AC gs Tryz.prog 114 [rdO n l k] [.op 0 (some n) 0,.c (.int .i64 least),.c (.int .i64 most)] (fun r H'=>r=.c (.int .i64 (readF ⟨3,least,most⟩ l k).2.n)∧H'=[rdO n (readF ⟨3,least,most⟩ l k).1.1 (readF ⟨3,least,most⟩ l k).1.2]):=by
 have h:=int08_ac (gs:=gs) n l k least most hl hb
 rw [readF_g l k (show ¬ (3:Int)=0 by decide),readR_g vN 0 rfl (t:=2) (f:=fun b=>rangeM b least most) (by show ¬ (3:Int)=1;decide) (by show ¬ (3:Int)=2;decide) (by show ¬ (3:Int)=11;decide) (by funext b;rfl) rfl]
 exact h
end
def recC (kind:Int) (fR fP fG:FuncId):CV:=.agg 4 (fl [.c (.int .i64 kind),.fn fR 0 fun _=>.top,.fn fP 0 fun _=>.top,.fn fG 0 fun _=>.top])
end
section
open Go.RowKit Cal
def caseF (vs:List V4):Nat→CV:=fl [.c (.int .i64 (vs.getD 0 V4.z).who.1),strC (vs.getD 0 V4.z).who.2.1,strC (vs.getD 0 V4.z).who.2.2,bsC (vs.getD 1 V4.z).b,.c (.int .i64 (vs.getD 2 V4.z).n),.c (.int .i64 (vs.getD 3 V4.z).n),bsC (vs.getD 4 V4.z).b,bsC (vs.getD 5 V4.z).b]
def authF (vs:List V4):Nat→CV:=fl [.c (.int .i64 (vs.getD 0 V4.z).n),bsC (vs.getD 1 V4.z).b,.c (.int .i64 (vs.getD 2 V4.z).n),.c (.int .i64 (vs.getD 3 V4.z).n),.c (.int .i64 (vs.getD 4 V4.z).n),.c (.int .i64 (vs.getD 5 V4.z).n),.c (.int .i64 (vs.getD 6 V4.z).n)]
def markF (vs:List V4):Nat→CV:=fl [.c (.int .i64 (vs.getD 0 V4.z).n),.c (.int .i64 (vs.getD 1 V4.z).n),.c (.int .i64 (vs.getD 2 V4.z).n),.c (.int .i64 (vs.getD 3 V4.z).n)]
def tickF (vs:List V4):Nat→CV:=fl [strC (vs.getD 0 V4.z).t,bsC (vs.getD 1 V4.z).b,.c (.int .i64 (vs.getD 2 V4.z).n)]
def issF (vs:List V4):Nat→CV:=fl [bsC (vs.getD 0 V4.z).b,bsC (vs.getD 1 V4.z).b]
end
section
open Go.RowKit Cal
section
variable (n:Nat) (w:W8) (least most:Int) (v:V4)
theorem doW_g {kd:Int} (h1:kd≠1) (h2:kd≠2) (h3:kd≠11) (nn:Int) (b t:List UInt8) (w:W8):doW ⟨kd,nn,false,b,t⟩ w=putW (bodyV ⟨kd,nn,false,b,t⟩).1 (bodyV ⟨kd,nn,false,b,t⟩).2.1 (bodyV ⟨kd,nn,false,b,t⟩).2.2 w:=by
 unfold doW
 rw [if_neg h1,if_neg h2,if_neg h3]
theorem putFd_g {f:Fd} (h:f.call≠0):putFd f v w=doW (fdV f v) w:=by unfold putFd;rw [if_neg h]
theorem octP_ac {gs:List Nat} [Ok9 gs] (hs:OkW w) (hb:v.b.length≤1000000):AC gs Tryz.prog 56 [wrO n w] [.op 0 (some n) 0,bsC v.b] (fun r H'=>r=.c (.tuple #[])∧H'=[wrO n (putFd ⟨6,least,most⟩ v w)]):=by
 have e:putFd ⟨6,least,most⟩ v w=putW 4 v.b 0 w:=by rw [putFd_g _ _ (show ¬ (6:Int)=0 by decide)];exact doW_g (kd:=6) (by decide) (by decide) (by decide) _ _ _ _
 rw [e]
 exact octetsW_ac n w v.b hb hs
theorem momP_ac {gs:List Nat} [Ok9 gs] (hs:OkW w):AC gs Tryz.prog 101 [wrO n w] [.op 0 (some n) 0,.c (.int .i64 v.n)] (fun r H'=>r=.c (.tuple #[])∧H'=[wrO n (putFd ⟨9,least,most⟩ v w)]):=by
 have e:putFd ⟨9,least,most⟩ v w=putW 24 (if inT v.n then bodyL (ofM v.n) else []) (ofE v.n) w:=by rw [putFd_g _ _ (show ¬ (9:Int)=0 by decide)];exact doW_g (kd:=9) (by decide) (by decide) (by decide) _ _ _ _
 rw [e]
 exact momentW_ac n w v.n hs
theorem intP_ac {gs:List Nat} [Ok9 gs] (hs:OkW w) (hz:-9223372036854775808≤v.n∧v.n≤9223372036854775807):AC gs Tryz.prog 97 [wrO n w] [.op 0 (some n) 0,.c (.int .i64 v.n)] (fun r H'=>r=.c (.tuple #[])∧H'=[wrO n (putFd ⟨3,least,most⟩ v w)]):=by
 have e:putFd ⟨3,least,most⟩ v w=putW 2 (putN v.n) 0 w:=by rw [putFd_g _ _ (show ¬ (3:Int)=0 by decide)];exact doW_g (kd:=3) (by decide) (by decide) (by decide) _ _ _ _
 rw [e]
 exact intW_ac n w v.n hz hs
end
end
section
open Go.RowKit Cal
def iV (z:Int):CV:=.c (.int .i64 z)
theorem rowsI_ac {gs:List Nat} [Ok9 gs] {f:FuncId} (hc:calleeB Tryz.prog f=true) (n:Nat) (tag:Int) (ws:W8) (l:List Int) (sG:Nat→W8) (h0:OkW ws) (hs:sG 0=openW tag ws) (hok:∀ i,i≤l.length→OkW (sG i)) (hl:l.length≤1000000) (hf:∀ i,i<l.length→AC gs Tryz.prog f [wrO n (sG i)] [.op 0 (some n) 0,iV (l.getD i 0)] (fun r H'=>r=.c (.tuple #[])∧H'=[wrO n (sG (i+1))])) :
  AC gs Tryz.prog 100 [wrO n ws] [.op 0 (some n) 0,.c (.int .i64 tag),isC l,.fn f 0 fun _=>.top] (fun r H'=>r=.c (.tuple #[])∧H'=[wrO n (closeV (sG l.length))]):=by
 refine ac_of 26 Tryz.func100 rfl rfl rfl (fun al w0 F0 St0=>?_)
 refine jU 116 ?_
 refine jqm (jmcH 0 (openW_ac n ws tag h0) ?_)
 rintro _ _ ⟨rfl,rfl⟩
 refine ⟨_,_,rfl,cZ,?_⟩
 refine jU 205131675 ?_;refine l_loop (α:=Nat) [9,15,16,17,18,19,20,21,22,23] (fun i=>[(15,.c (.int .i64 (i:Nat)))]) (fun i=>[wrO n (sG i)]) (fun i=>i≤l.length) (fun i=>l.length-i) (0) ?_ (fun _=>rfl) ?_ ?_ ?_
 ·exact Nat.zero_le _
 ·exact .cons cZ .nil
 ·rw [hs];exact HEnt.refl _
 ·rintro i (hi:i≤l.length)
  refine jU 7526 ?_;refine jcc (fun h305=>?_) fun h305=>?_
  rotate_left
  ·refine jU 84000200020006000 ?_
   have hie:i=l.length:=by omega
   subst hie
   refine jU 1200 ?_
   refine jqm (jmcH 0 (closeW_ac n (sG l.length) (hok _ (Nat.le_refl _))) ?_)
   rintro _ _ ⟨rfl,rfl⟩
   refine ⟨_,_,rfl,cZ,?_⟩
   refine jU 5 ?_
   exact end_own (.inr rfl) _ [_] [0] (by decide) rfl (res_0 rfl) ⟨rfl,rfl⟩
  refine jU 11120051607006207810 ?_
  refine jqm (m_callHV1 (i:=0) rfl rfl (by assumption) rfl (hf i (by omega)) (.cons cP (.cons cZ .nil)) rfl rfl ?_)
  rintro _ _ ⟨rfl,rfl⟩
  refine ⟨_,rfl,?_⟩
  refine jU 851920084005 ?_
  refine jlend (i+1) ?_ ?_ (h5:=?_) (h7:=?_)
  ·show i+1≤l.length;omega
  ·show l.length-(i+1)<l.length-i;omega
  ·exact .cons (cI (by omega)) .nil
  ·exact HEnt.refl _
theorem rowsT_ac {gs:List Nat} [Ok9 gs] {f:FuncId} (hc:calleeB Tryz.prog f=true) (n:Nat) (tag:Int) (ws:W8) (l:List (List UInt8)) (sG:Nat→W8) (h0:OkW ws) (hs:sG 0=openW tag ws) (hok:∀ i,i≤l.length→OkW (sG i)) (hl:l.length≤1000000) (hf:∀ i,i<l.length→AC gs Tryz.prog f [wrO n (sG i)] [.op 0 (some n) 0,strC (l.getD i [])] (fun r H'=>r=.c (.tuple #[])∧H'=[wrO n (sG (i+1))])) :
  AC gs Tryz.prog 103 [wrO n ws] [.op 0 (some n) 0,.c (.int .i64 tag),lsC l,.fn f 0 fun _=>.top] (fun r H'=>r=.c (.tuple #[])∧H'=[wrO n (closeV (sG l.length))]):=by
 refine ac_of 26 Tryz.func103 rfl rfl rfl (fun al w0 F0 St0=>?_)
 refine jU 116 ?_
 refine jqm (jmcH 0 (openW_ac n ws tag h0) ?_)
 rintro _ _ ⟨rfl,rfl⟩
 refine ⟨_,_,rfl,cZ,?_⟩
 refine jU 205131675 ?_;refine l_loop (α:=Nat) [9,15,16,17,18,19,20,21,22,23] (fun i=>[(15,.c (.int .i64 (i:Nat)))]) (fun i=>[wrO n (sG i)]) (fun i=>i≤l.length) (fun i=>l.length-i) (0) ?_ (fun _=>rfl) ?_ ?_ ?_
 ·exact Nat.zero_le _
 ·exact .cons cZ .nil
 ·rw [hs];exact HEnt.refl _
 ·rintro i (hi:i≤l.length)
  refine jU 7526 ?_;refine jcc (fun h305=>?_) fun h305=>?_
  rotate_left
  ·refine jU 84000200020006000 ?_
   have hie:i=l.length:=by omega
   subst hie
   refine jU 1200 ?_
   refine jqm (jmcH 0 (closeW_ac n (sG l.length) (hok _ (Nat.le_refl _))) ?_)
   rintro _ _ ⟨rfl,rfl⟩
   refine ⟨_,_,rfl,cZ,?_⟩
   refine jU 5 ?_
   exact end_own (.inr rfl) _ [_] [0] (by decide) rfl (res_0 rfl) ⟨rfl,rfl⟩
  refine jU 11120051607006207810 ?_
  refine jqm (m_callHV1 (i:=0) rfl rfl (by assumption) rfl (hf i (by omega)) (.cons cP (.cons cZ .nil)) rfl rfl ?_)
  rintro _ _ ⟨rfl,rfl⟩
  refine ⟨_,rfl,?_⟩
  refine jU 851920084005 ?_
  refine jlend (i+1) ?_ ?_ (h5:=?_) (h7:=?_)
  ·show i+1≤l.length;omega
  ·show l.length-(i+1)<l.length-i;omega
  ·exact .cons (cI (by omega)) .nil
  ·exact HEnt.refl _
section
variable {gs:List Nat} [Ok9 gs]
theorem id11_ac (n:Nat) (w:W8) (s:List UInt8) (hs:OkW w) (h:hexOk s=true):AC gs Tryz.prog 98 [wrO n w] [.op 0 (some n) 0,strC s] (fun r H'=>r=.c (.tuple #[])∧H'=[wrO n (putFd fId (vB4 (hexB s)) w)]):=by
 have hb:=mnum_ac (gs:=gs) s
 rw [if_pos h,if_pos h] at hb
 have hl:=(hexOk_two h).1
 have hx:=hexB_len s
 have hf:=failW_ac (gs:=gs) n w 0
 rw [failW_zero] at hf
 refine ac_of 17 Tryz.func98 rfl rfl rfl (fun al w0 F0 St0=>?_)
 refine jU 16 ?_
 refine jqe (jecP hb ?_)
 refine jU 1165119009001 ?_
 refine jqm (jmcH 0 hf ?_)
 rintro _ _ ⟨rfl,rfl⟩
 refine ⟨_,_,rfl,cZ,?_⟩
 refine jU 112005 ?_
 refine jqm (jmcH 0 (octP_ac n w 16 16 (vB4 (hexB s)) hs (by show (hexB s).length≤1000000;omega)) ?_)
 rintro _ _ ⟨rfl,rfl⟩
 refine ⟨_,_,rfl,cZ,?_⟩
 refine jU 5 ?_
 exact end_own (.inr rfl) _ [_] [0] (by decide) rfl (res_0 rfl) ⟨rfl,rfl⟩
theorem tx11_ac [OkT gs] (n:Nat) (w:W8) (s:List UInt8) (hs:OkW w) (h:askedM s 64=0):AC gs Tryz.prog 104 [wrO n w] [.op 0 (some n) 0,strC s] (fun r H'=>r=.c (.tuple #[])∧H'=[wrO n (doW (vTx s) w)]):=by
 have hl:=asked_len h
 have ht:=textW_ac (gs:=gs) n w s 64 (by omega) hs
 have e:doW (vTx s) w=putW 12 (if askedM s 64=0 then s else []) (askedM s 64) w:=doW_g (kd:=7) (by decide) (by decide) (by decide) _ _ _ _
 rw [← e] at ht
 refine ac_of 7 Tryz.func104 rfl rfl rfl (fun al w0 F0 St0=>?_)
 refine jU 11200 ?_
 refine jqm (jmcH 0 ht ?_)
 rintro _ _ ⟨rfl,rfl⟩
 refine ⟨_,_,rfl,cZ,?_⟩
 refine jU 5 ?_
 exact end_own (.inr rfl) _ [_] [0] (by decide) rfl (res_0 rfl) ⟨rfl,rfl⟩
end
section
variable {gs:List Nat} [OkG gs] [OkT gs]
def PW (gs:List Nat) (f:FuncId) (w:W8) (args:List CV) (w':W8):Prop:=∀ n,AC gs Tryz.prog f [wrO n w] (.op 0 (some n) 0::args) (fun r H'=>r=.c (.tuple #[])∧H'=[wrO n w'])
theorem cb_open {gs:List Nat} [OkG gs]:PW gs 54 w00 [.c (.int .i64 48)] (openW 48 w00):=fun n=>openW_ac n w00 48 ok0
variable {c:C11}
theorem cb_1 {gs:List Nat} [OkG gs] (h:Good11 c):PW gs 97 (openW 48 w00) [.c (.int .i64 c.se)] (cW1 c):=fun n=>intP_ac n _ 1 1099511627776 (vN4 c.se) (inv_okW inv_0 (by decide)) (fd_body ok_Se h.se (by decide)).2.2.2.2.2.2.1
theorem cb_2 {gs:List Nat} [OkG gs] (h:Good11 c) (ho:hexOk c.iss=true):PW gs 98 (cW1 c) [strC c.iss] (cW2 c):=fun n=>id11_ac n _ c.iss (inv_okW (inv_1 h) (by decide)) ho
theorem cb_3 {gs:List Nat} [OkG gs] (h:Good11 c):PW gs 97 (cW2 c) [.c (.int .i64 c.ge)] (cW3 c):=fun n=>intP_ac n _ 1 1048576 (vN4 c.ge) (inv_okW (inv_2 h) (by decide)) (fd_body ok_Ge h.ge (by decide)).2.2.2.2.2.2.1
theorem cb_4 (h:Good11 c):PW gs 99 (cW3 c) [subjC c.who] (cW4 c):=fun n=>nput_ac n (inv_3 h) (by decide) c.who
theorem cb_5 {gs:List Nat} [OkG gs] (h:Good11 c):PW gs 100 (cW4 c) [.c (.int .i64 48),isC [c.nb,c.na],.fn 101 0 fun _=>.top] (cW5 c):=fun n =>
 rowsI_ac (f:=101) (by kernel_rfl) n 48 (cW4 c) [c.nb,c.na] (mW (cW4 c) [c.nb,c.na]) (inv_okW (inv_4 h) (by decide)) rfl (fun i hi=>by
  rcases i with _|_|_|i
  ·exact inv_okW (inv_m0 h) (by decide)
  ·exact inv_okW (inv_m1 h) (by decide)
  ·exact inv_okW (inv_m2 h) (by decide)
  ·simp at hi) (by simp) (fun i hi=>by
  rcases i with _|_|i
  ·exact momP_ac n _ 0 0 (vN4 c.nb) (inv_okW (inv_m0 h) (by decide))
  ·exact momP_ac n _ 0 0 (vN4 c.na) (inv_okW (inv_m1 h) (by decide))
  ·simp at hi;omega)
theorem cb_6 {gs:List Nat} [OkG gs] (h:Good11 c) (ho:hexOk c.ky=true):PW gs 98 (cW5 c) [strC c.ky] (cW6 c):=fun n=>id11_ac n _ c.ky (inv_okW (inv_5 h) (by decide)) ho
theorem cb_7 {gs:List Nat} [OkG gs] (h:Good11 c):PW gs 102 (cW6 c) [.c (.int .i64 c.us)] (cW7 c):=fun n=>by
 have hf:=flagsW_ac (gs:=gs) n (cW6 c) c.us (inv_okW (inv_6 h) (by decide))
 have e:cW7 c=putW 3 (bitsL c.us) (bitsE c.us) (cW6 c):=doW_g (kd:=10) (by decide) (by decide) (by decide) _ _ _ _
 rw [e]
 exact hf
theorem cb_8 (h:Good11 c):PW gs 103 (cW7 c) [.c (.int .i64 48),lsC c.al,.fn 104 0 fun _=>.top] (cW8 c):=fun n =>
 rowsT_ac (f:=104) (by kernel_rfl) n 48 (cW7 c) c.al (tW (cW7 c) c.al) (inv_okW (inv_7 h) (by decide)) rfl (fun i hi=>inv_okW (inv_t h i hi) (by have:=h.n8;omega)) (by have:=h.n8;omega) (fun i hi=>by
  have e:c.al.getD i []=c.al[i]:=by simp [List.getD,hi]
  exact tx11_ac n _ (c.al.getD i []) (inv_okW (inv_t h i (by omega)) (by have:=h.n8;omega)) (by rw [e];exact h.al _ (List.getElem_mem _)))
theorem cb_9 {gs:List Nat} [OkG gs] (h:Good11 c):PW gs 57 (cW8 c) [] (cW9 c):=fun n=>closeW_ac n (cW8 c) (inv_okW (inv_8 h) (by decide))
set_option maxHeartbeats 4000000 in
theorem body11_ac (c:C11) (hn:c.al.length≤1000):ACp gs Tryz.prog 46 [.agg 11 (certF c)] (.tup 2 (fl [bsC (if rightC c=true then certB c else []),.err (if rightC c=true then 0 else 4)])):=by
 refine ac_of 54 Tryz.func46 rfl rfl rfl (fun al w0 F0 St0=>?_)
 refine jcr ?_
 refine jqe (jebx 11 fun p1=>?_)
 refine jU 67511 ?_;refine jqo (jrdoA 11) ?_
 refine jqe (jecP (right11_ac c hn) ?_ (ho:=rfl) (he:=(.cons (se rfl (CEnt.agg rfl (fun j hj=>CEnt.of_eq (by rw [Nat.zero_add];exact fl_map _ hj)))) .nil)))
 refine jU 530 ?_;refine jcc (fun h60=>?_) fun h60=>?_
 ·refine jcs ?_;refine jcd (.rd 0 (.rd 1 (.rd 2 .done))) ?_;refine jU 88070704000000 ?_
  refine jR (jtr (jrt (hv:=?_)))
  have hr:rightC c=false:=by simpa using h60
  rw [hr]
  exact cT cN (CEnt.errN rfl)
 refine jU 810 ?_
 have hr:rightC c=true:=by simpa using h60
 have hg:=good_right11 hr
 have ho:hexOk c.iss=true∧hexOk c.ky=true:=by unfold rightC at hr;simp only [Bool.and_eq_true] at hr;exact ⟨hr.1.1.2,hr.1.2⟩
 rw [if_pos hr,if_pos hr]
 refine jcr ?_;refine jq (rd_build (n:=3) rfl zr95 pl95 rfl rfl) ?_
 refine jqe (jebx 3 fun p2=>?_)
 refine jU 51 ?_;refine code_knowG (know_op 4 rfl) fun hn=>?_
 obtain ⟨n,rfl⟩:=hn
 refine jE (newW n 1 rfl cZ cZ CEnt.nil) ?_
 dsimp only [List.set_cons_zero,List.set_cons_succ,List.cons_append,List.nil_append,List.length_cons,List.length_nil,Nat.zero_add,Nat.reduceAdd]
 refine jU 16 ?_
 refine jqm (jmcH 1 (cb_open n) ?_)
 rintro _ _ ⟨rfl,rfl⟩
 refine ⟨_,_,rfl,cZ,?_⟩
 refine jU 5090165 ?_
 refine jqm (jmcH 1 (cb_1 hg n) ?_)
 rintro _ _ ⟨rfl,rfl⟩
 refine ⟨_,_,rfl,cZ,?_⟩
 refine jU 50100165 ?_
 refine jqm (jmcH 1 (cb_2 hg ho.1 n) ?_)
 rintro _ _ ⟨rfl,rfl⟩
 refine ⟨_,_,rfl,cZ,?_⟩
 refine jU 501000165 ?_
 refine jqm (jmcH 1 (cb_3 hg n) ?_)
 rintro _ _ ⟨rfl,rfl⟩
 refine ⟨_,_,rfl,cZ,?_⟩
 refine jU 165 ?_;refine jq (jrfa 3 3 true) ?_;refine jqo (jrdoA 3) ?_
 refine jqm (jmcH 1 (cb_4 hg n) ?_)
 rintro _ _ ⟨rfl,rfl⟩
 refine ⟨_,_,rfl,cZ,?_⟩
 refine jU 5020000000165 ?_;refine jq (jrfa 7 1 false) ?_;refine jU 50 ?_
 refine jqe (jebl 2 1 zr3 fun p8=>?_)
 refine seq_ent (freeze 2 rfl) ?_
 refine seq_ent (thaw 34 (fun k _=>iV ([c.nb,c.na].getD k 0)) rfl rfl (by decide) (fun a b ha hb=>by
  have hb0:b=0:=by omega
  subst hb0
  rcases a with _|_|a
  ·exact cZ
  ·exact cZ
  ·omega)) ?_
 refine jqm (jmcH 1 (cb_5 hg n) ?_ (ho:=rfl) (he:=(.cons (se rfl cP) (.cons (se rfl cZ) (.cons (se rfl cZ) (.cons (se rfl CEnt.fn0) .nil))))))
 rintro _ _ ⟨rfl,rfl⟩
 refine ⟨_,_,rfl,cZ,?_⟩
 refine jU 165 ?_;refine jq (jrfa 8 1 false) ?_;refine jU 50 ?_
 refine jqm (jmcH 1 (cb_6 hg ho.2 n) ?_)
 rintro _ _ ⟨rfl,rfl⟩
 refine ⟨_,_,rfl,cZ,?_⟩
 refine jU 165 ?_;refine jq (jrfa 9 1 false) ?_;refine jU 50 ?_
 refine jqm (jmcH 1 (cb_7 hg n) ?_)
 rintro _ _ ⟨rfl,rfl⟩
 refine ⟨_,_,rfl,cZ,?_⟩
 refine jU 165 ?_;refine jq (jrfa 10 1 false) ?_;refine jU 50 ?_
 refine jqm (jmcH 1 (cb_8 hg n) ?_ (ho:=rfl) (he:=(.cons (se rfl cP) (.cons (se rfl cZ) (.cons (se rfl cZ) (.cons (se rfl CEnt.fn0) .nil))))))
 rintro _ _ ⟨rfl,rfl⟩
 refine ⟨_,_,rfl,cZ,?_⟩
 refine jU 165 ?_
 refine jqm (jmcH 1 (cb_9 hg n) ?_)
 rintro _ _ ⟨rfl,rfl⟩
 refine ⟨_,_,rfl,cZ,?_⟩
 refine jU 165 ?_
 refine jqm (jmcH 1 (doneW_ac n (cW9 c) (inv_okW (inv_9 hg) (by decide))) ?_)
 rintro _ _ ⟨rfl,rfl⟩
 refine ⟨_,_,rfl,cZ,?_⟩
 refine jU 511900900 ?_
 refine jR (jrt (hv:=?_))
 obtain ⟨e1,e2⟩:=cert_put hg
 rw [e1,e2]
 exact cZ
end
end
section
open Go.RowKit Cal
theorem tx_ok:StepOk txSp:=⟨fun l k hl hm=>(read_mu aTx (l:=l) (k:=k) hl).2.2.1 (more_pos hm).1 (by decide),fun l k hl hm _=>(read_mu aTx (l:=l) (k:=k) hl).2.2.2.2.2.1 (by decide) (by decide),fun l k hl hm=>by
 have:=(read_mu aTx (l:=l) (k:=k) hl).2.2.2.2.2.1 (by decide) (by decide)
 show l.length≤(readR aTx l k).l.length∧(readR aTx l k).l.length≤l.length+16
 omega⟩
set_option maxHeartbeats 2000000 in
theorem rowT_ac {gs:List Nat} [Ok9 gs] {f:FuncId} (hc:calleeB Tryz.prog f=true) (n:Nat) (l:List (List UInt8)) (k:Nat) (tag most:Int) {sp:StepR (List UInt8)} (ok:StepOk sp) (hl:0<l.length∧l.length≤100000) (hb:sumL l≤100000) (hf:∀ l k,0<l.length∧l.length≤200000→sumL l≤100000→moreM l k=true→AC gs Tryz.prog f [rdO n l k] [.op 0 (some n) 0] (fun r H'=>r=strC (sp l k).2∧H'=[rdO n (sp l k).1.1 (sp l k).1.2])) :
  AC gs Tryz.prog 119 [rdO n l k] [.op 0 (some n) 0,.c (.int .i64 tag),.c (.int .i64 most),.fn f 0 fun _=>.top]
   (fun r H'=>r=lsC (if (endG sp (enterL tag l k) (enterR tag l k).k most).2=0 then (stG sp (enterL tag l k) (enterR tag l k).k (jG sp (enterL tag l k) (enterR tag l k).k most)).2 else [])∧H'=[rdO n (endG sp (enterL tag l k) (enterR tag l k).k most).1 (endG sp (enterL tag l k) (enterR tag l k).k most).2]):=by
 have he:=enter_mu (t:=tag) (l:=l) (k:=k) hl.1
 have hle:l.length≤(enterL tag l k).length∧(enterL tag l k).length≤l.length+1:=by
  by_cases h:(enterR tag l k).k=0
  ·have:=he.2.2.2.1 h;omega
  ·have:=he.2.2.2.2.1 h;omega
 have hsm:muS (enterL tag l k) (enterR tag l k).k≤100001:=by
  have h0:muS l k≤100001:=by unfold muS;split <;> omega
  exact Nat.le_trans he.2.1 h0
 have hse:sumL (enterL tag l k)≤100000:=by
  have h1:=he.2.1
  have h2:=he.2.2.1
  have h3:=he.1
  by_cases hk:k=0
  ·have h4:=h2 hk
   unfold muS at h4
   rw [if_pos hk] at h4
   split at h4 <;> omega
  ·rw [(h3 hk).1];exact hb
 have hnl:=now_sum l
 generalize hl0:enterL tag l k=l0 at *
 generalize hk0:(enterR tag l k).k=k0 at *
 have hso:=fun j=>stG_out sp l0 k0 j
 have hbd:=stG_bd (sp:=sp) (k0:=k0) (most:=most) ok (show 0<l0.length by omega)
 refine ac_of 36 Tryz.func119 rfl rfl rfl (fun al w0 F0 St0=>?_)
 refine jU 116516516 ?_
 refine jqm (jmcH 0 (enter_ac n l k tag (by omega) (by omega)) ?_)
 rintro _ _ ⟨rfl,rfl⟩
 refine ⟨_,_,rfl,cZ,?_⟩
 refine jU 2075 ?_
 rw [hl0,hk0]
 refine jE (own_nil 9 1 (rowF 1 (fun (t:List UInt8) (_:Nat)=>strC t) [] []) rfl) ?_;refine l_loop (α:=Nat×Option Nat) [9,13,14,15,16,17,18,19,20,21,22,23,24,25,26,27] (fun (j,g)=>[(9,.os 1 g 0 (stG sp l0 k0 j).2.length 1)]) (fun (j,g)=>[rdO n (stG sp l0 k0 j).1.1 (stG sp l0 k0 j).1.2,(g,.blk ((stG sp l0 k0 j).2.length * 1) (rowF 1 (fun (t:List UInt8) (_:Nat)=>strC t) [] (stG sp l0 k0 j).2))]) (fun p=>∀ i,i<p.1→goB sp l0 k0 most i=true) (fun p=>muS (stG sp l0 k0 p.1).1.1 (stG sp l0 k0 p.1).1.2) ((0,none)) ?_ (fun _=>rfl) ?_ ?_ ?_
 ·exact fun i hi=>absurd hi (Nat.not_lt_zero i)
 ·exact .cons (cO rfl) .nil
 ·exact HEnt.refl _
 ·rintro ⟨j,g⟩ (hj:∀ i,i<j→goB sp l0 k0 most i=true)
  obtain ⟨hmj,hlk,hlo,hhi⟩:=hbd j hj
  have hjl:0<(stG sp l0 k0 j).1.1.length∧(stG sp l0 k0 j).1.1.length≤200000:=by omega
  have hjo:=hso j
  have hjm:j≤100001:=by omega
  refine jU 167 ?_
  refine jqm (jmcH 0 (more_ac n (stG sp l0 k0 j).1.1 (stG sp l0 k0 j).1.2 (by omega)) ?_)
  rintro _ _ ⟨rfl,rfl⟩
  refine ⟨_,_,rfl,cZ,?_⟩
  refine jU 5 ?_;refine jcc (fun h315=>?_) fun h315=>?_
  rotate_left
  ·refine jU 84000200020006000 ?_
   first
    |(have hmt:moreM (stG sp l0 k0 j).1.1 (stG sp l0 k0 j).1.2=true:=by simpa using h315
      have hkz:=(more_pos hmt).1
      rw [if_pos hkz]
      have hstop:jG sp l0 k0 most=j:=jG_one ok (by omega) hj (by unfold goB;rw [hmt,Bool.true_and,decide_eq_false_iff_not];omega)
      have hE:rdO n (leaveL (stG sp l0 k0 j).1.1 3) (leaveK (stG sp l0 k0 j).1.1 3)=rdO n (endG sp l0 k0 most).1 (endG sp l0 k0 most).2:=by
       unfold endG
       rw [hstop]
       dsimp only
       rw [if_pos hmt])
    |(have hmf:moreM (stG sp l0 k0 j).1.1 (stG sp l0 k0 j).1.2=false:=by simpa using h315
      have hstop:jG sp l0 k0 most=j:=jG_one ok (by omega) hj (by unfold goB;rw [hmf];rfl)
      have hE:rdO n (leaveL (stG sp l0 k0 j).1.1 (stG sp l0 k0 j).1.2) (leaveK (stG sp l0 k0 j).1.1 (stG sp l0 k0 j).1.2)=rdO n (endG sp l0 k0 most).1 (endG sp l0 k0 most).2:=by
       unfold endG
       rw [hstop]
       dsimp only
       rw [if_neg (by rw [hmf];simp)])
   refine jU 16 ?_
   refine jqm (jmcH 0 (leave_ac n (stG sp l0 k0 j).1.1 _ (by omega)) ?_)
   rintro _ _ ⟨rfl,rfl⟩
   refine ⟨_,_,rfl,cZ,?_⟩
   refine jU 75 ?_
   dsimp only
   rw [hE,hstop]
   refine code_openR 0 rfl fun gl=>?_;refine jU 5500000501004016 ?_;refine jcc (fun h323=>?_) fun h323=>?_
   ·refine jE (closeR n (endG sp l0 k0 most).2 (endG sp l0 k0 most).1 0 2 rfl rfl rfl (cO rfl) cZ (Nat.le_refl _) (fun _ _=>cZ)) ?_;refine jU 30007000516 ?_
    exact end_ownV (.inl rfl) [0] (by decide) rfl (res_1 rfl (arv_tmp rfl)) (m:=lsC []) (CEnt.nilS' rfl) ⟨by rw [if_neg (by omega)],rfl⟩
   refine jU 810 ?_;refine jE (closeR n (endG sp l0 k0 most).2 (endG sp l0 k0 most).1 0 2 rfl rfl rfl (cO rfl) cZ (Nat.le_refl _) (fun _ _=>cZ)) ?_;refine jU 5116 ?_;refine jE (freeze 1 rfl) ?_;refine jE (thaw 8 (fun a b=>(fun (t:List UInt8) (_:Nat)=>strC t) ((stG sp l0 k0 j).2.getD a []) b) rfl rfl (by omega) (fun a b ha hb=>CEnt.of_eq (by rw [Nat.zero_add,rowF_at hb]))) ?_;refine jU 7000 ?_
   exact end_ownV (.inl rfl) [0] (by decide) rfl (res_1 rfl (arv_tmp rfl)) (m:=lsC (stG sp l0 k0 j).2) cZ ⟨by rw [if_pos (by omega)],rfl⟩
  refine jU 521316720810 ?_;refine jcc (fun h316=>?_) fun h316=>?_
  rotate_left
  ·refine jU 810 ?_
   have hmt0:moreM (stG sp l0 k0 j).1.1 (stG sp l0 k0 j).1.2=true:=by simpa using h315
   have hgo:goB sp l0 k0 most j=true:=by unfold goB;rw [hmt0,Bool.true_and,decide_eq_true_eq];omega
   refine jU 111200 ?_
   refine jqm (m_callHV1 (i:=0) rfl rfl (by assumption) rfl (hf (stG sp l0 k0 j).1.1 (stG sp l0 k0 j).1.2 hjl (by have h1:muS (stG sp l0 k0 j).1.1 (stG sp l0 k0 j).1.2=sumL (stG sp l0 k0 j).1.1+1:=(by unfold muS;rw [if_pos (more_pos hmt0).1]);omega) hmt0) (.cons cP .nil) rfl rfl ?_)
   rintro _ _ ⟨rfl,rfl⟩
   refine ⟨_,rfl,?_⟩
   refine jqe (jebl 1 1 zr9 fun p3=>?_)
   refine jqm (m_appendC (rowC_row 1 (fun (t:List UInt8) (_:Nat)=>strC t) []) (l2:=[(sp (stG sp l0 k0 j).1.1 (stG sp l0 k0 j).1.2).2]) rfl rfl rfl rfl (by exact Nat.le_refl _) (fun _ _=>cZ) (src_os rfl (.inl rfl) (by decide)) rfl (fun j hj=>by rcases j with _|j <;> first|exact cZ|(exfalso;simp at hj <;> omega)) Tryz.underlying82 nu82 sz9 zr9 by9 rfl (by (simp;omega)) (by (simp;omega)) (leaf_flk rfl rfl) rfl rfl rfl (fun p4=>?_))
   refine jU 840051 ?_
   refine jlend ((j+1,p4)) ?_ ?_ (h5:=?_) (h7:=?_)
   ·exact fun i hi=>if h:i<j then hj i h else (by obtain rfl:i=j:=(by have hi:i<j+1:=hi;omega);exact hgo)
   ·exact ok.mu _ _ (by omega) (by unfold goB at hgo;rw [Bool.and_eq_true] at hgo;exact hgo.1)
   ·exact .cons (cO rfl) .nil
   ·exact HEnt.refl _
  refine jU 16 ?_;refine jq (jrde 2) ?_
  refine jqm (jmcH 0 (fail08_ac n (stG sp l0 k0 j).1.1 (stG sp l0 k0 j).1.2 3) ?_)
  rintro _ _ ⟨rfl,rfl⟩
  refine ⟨_,_,rfl,cZ,?_⟩
  refine jU 84000200080000200060005 ?_
  first
   |(have hmt:moreM (stG sp l0 k0 j).1.1 (stG sp l0 k0 j).1.2=true:=by simpa using h315
     have hkz:=(more_pos hmt).1
     rw [if_pos hkz]
     have hstop:jG sp l0 k0 most=j:=jG_one ok (by omega) hj (by unfold goB;rw [hmt,Bool.true_and,decide_eq_false_iff_not];omega)
     have hE:rdO n (leaveL (stG sp l0 k0 j).1.1 3) (leaveK (stG sp l0 k0 j).1.1 3)=rdO n (endG sp l0 k0 most).1 (endG sp l0 k0 most).2:=by
      unfold endG
      rw [hstop]
      dsimp only
      rw [if_pos hmt])
   |(have hmf:moreM (stG sp l0 k0 j).1.1 (stG sp l0 k0 j).1.2=false:=by simpa using h315
     have hstop:jG sp l0 k0 most=j:=jG_one ok (by omega) hj (by unfold goB;rw [hmf];rfl)
     have hE:rdO n (leaveL (stG sp l0 k0 j).1.1 (stG sp l0 k0 j).1.2) (leaveK (stG sp l0 k0 j).1.1 (stG sp l0 k0 j).1.2)=rdO n (endG sp l0 k0 most).1 (endG sp l0 k0 most).2:=by
      unfold endG
      rw [hstop]
      dsimp only
      rw [if_neg (by rw [hmf];simp)])
  refine jU 16 ?_
  refine jqm (jmcH 0 (leave_ac n (stG sp l0 k0 j).1.1 _ (by omega)) ?_)
  rintro _ _ ⟨rfl,rfl⟩
  refine ⟨_,_,rfl,cZ,?_⟩
  refine jU 75 ?_
  dsimp only
  rw [hE,hstop]
  refine code_openR 0 rfl fun gl=>?_;refine jU 5500000501004016 ?_;refine jcc (fun h323=>?_) fun h323=>?_
  ·refine jE (closeR n (endG sp l0 k0 most).2 (endG sp l0 k0 most).1 0 2 rfl rfl rfl (cO rfl) cZ (Nat.le_refl _) (fun _ _=>cZ)) ?_;refine jU 30007000516 ?_
   exact end_ownV (.inl rfl) [0] (by decide) rfl (res_1 rfl (arv_tmp rfl)) (m:=lsC []) (CEnt.nilS' rfl) ⟨by rw [if_neg (by omega)],rfl⟩
  refine jU 810 ?_;refine jE (closeR n (endG sp l0 k0 most).2 (endG sp l0 k0 most).1 0 2 rfl rfl rfl (cO rfl) cZ (Nat.le_refl _) (fun _ _=>cZ)) ?_;refine jU 5116 ?_;refine jE (freeze 1 rfl) ?_;refine jE (thaw 8 (fun a b=>(fun (t:List UInt8) (_:Nat)=>strC t) ((stG sp l0 k0 j).2.getD a []) b) rfl rfl (by omega) (fun a b ha hb=>CEnt.of_eq (by rw [Nat.zero_add,rowF_at hb]))) ?_;refine jU 7000 ?_
  exact end_ownV (.inl rfl) [0] (by decide) rfl (res_1 rfl (arv_tmp rfl)) (m:=lsC (stG sp l0 k0 j).2) cZ ⟨by rw [if_pos (by omega)],rfl⟩
section
variable {gs:List Nat} [Ok9 gs]
theorem txr_ac [OkT gs] (n:Nat) (l:List (List UInt8)) (k:Nat) (hl:0<l.length∧l.length≤1000000) (hb:(nowL l).length≤10000000):AC gs Tryz.prog 120 [rdO n l k] [.op 0 (some n) 0] (fun r H'=>r=strC (txSp l k).2∧H'=[rdO n (txSp l k).1.1 (txSp l k).1.2]):=by
 have h:=textR_ac (gs:=gs) n l k hl hb
 refine ac_of 5 Tryz.func120 rfl rfl rfl (fun al w0 F0 St0=>?_)
 refine jU 16516 ?_
 refine jqm (jmcH 0 h ?_)
 rintro _ _ ⟨rfl,rfl⟩
 refine ⟨_,_,rfl,cZ,?_⟩
 refine jU 700051 ?_
 exact end_H (.inl rfl) rfl (res_1 rfl (arv_tmp rfl)) cZ
theorem ided_ac (n:Nat) (l l':List (List UInt8)) (b:List UInt8) (h16:b.length=16) (hO:AC gs Tryz.prog 66 [rdO n l 0] [.op 0 (some n) 0,.c (.int .i64 16),.c (.int .i64 16)] (fun r H'=>r=bsC b∧H'=[rdO n l' 0])):AC gs Tryz.prog 115 [rdO n l 0] [.op 0 (some n) 0] (fun r H'=>r=strC (flatX b)∧H'=[rdO n l' 0]):=by
 have hm:=mtext_ac (gs:=gs) b
 rw [if_pos h16,if_pos h16] at hm
 have hf:=fail08_ac (gs:=gs) n l' 0 0
 rw [if_pos rfl] at hf
 refine ac_of 20 Tryz.func115 rfl rfl rfl (fun al w0 F0 St0=>?_)
 refine jU 16516 ?_
 refine jqm (jmcH 0 hO ?_)
 rintro _ _ ⟨rfl,rfl⟩
 refine ⟨_,_,rfl,cZ,?_⟩
 refine jU 16751 ?_
 refine jqm (jmcH 0 (err08_ac n l' 0) ?_)
 rintro _ _ ⟨rfl,rfl⟩
 refine ⟨_,_,rfl,cZ,?_⟩
 refine jU 5500000 ?_;refine jcc (fun h50=>?_) fun h50=>?_
 ·refine jU 30007000516 ?_
  exact absurd rfl h50
 refine jU 16810 ?_
 refine jqe (jecP hm ?_)
 refine jU 1165119009001 ?_
 refine jqm (jmcH 0 hf ?_)
 rintro _ _ ⟨rfl,rfl⟩
 refine ⟨_,_,rfl,cZ,?_⟩
 refine jU 700051165 ?_
 exact end_H (.inl rfl) rfl (res_1 rfl (arv_tmp rfl)) cZ
end
theorem flF_ac {gs:List Nat} [Ok9 gs] (n:Nat) (l:List (List UInt8)) (k:Nat) (hl:0<l.length∧l.length≤1000000) (hb:(nowL l).length≤10000000):AC gs Tryz.prog 118 [rdO n l k] [.op 0 (some n) 0] (fun r H'=>r=.c (.int .i64 (readR aFl l k).v.n)∧H'=[rdO n (readR aFl l k).l (readR aFl l k).k]):=by
 have h:=flags08_ac (gs:=gs) n l k hl hb
 rw [readR_g vN 0 rfl (t:=3) (f:=fun b=>((((maskM b).1:Nat):Int),(maskM b).2)) (by show ¬ (10:Int)=1;decide) (by show ¬ (10:Int)=2;decide) (by show ¬ (10:Int)=11;decide) (by funext b;rfl) rfl]
 exact h
def PR (gs:List Nat) (f:FuncId) (l:List (List UInt8)) (args:List CV) (r:CV) (l':List (List UInt8)):Prop:=∀ n,AC gs Tryz.prog f [rdO n l 0] (.op 0 (some n) 0::args) (fun x H'=>x=r∧H'=[rdO n l' 0])
theorem now_sm {ls:List (List UInt8)} {x:List UInt8} (h:x.length≤100000):(nowL (ls++[x])).length≤10000000:=by rw [nowL_snoc];omega
section
variable {gs:List Nat} [OkG gs] [OkT gs] {c:C11}
theorem rest_len (h:Good11 c):(r1 c).length≤30000∧(r2 c).length≤30000∧(r3 c).length≤30000∧(r4 c).length≤30000∧(r5 c).length≤30000∧(r6 c).length≤30000∧(r7 c).length≤30000:=by
 have h0:=(cert_len h).1
 unfold r0 at h0
 rw [List.length_append] at h0
 have h1:(r1 c).length=(encF fId (vB4 (hexB c.iss))).length+(r2 c).length:=by unfold r1;rw [List.length_append]
 have h2:(r2 c).length=(encF fGe (vN4 c.ge)).length+(r3 c).length:=by unfold r2;rw [List.length_append]
 have h3:(r3 c).length=(encF fWho (vS4 c.who)).length+(r4 c).length:=by unfold r3;rw [List.length_append]
 have h4:(r4 c).length=(putL 48 (bM c)).length+(r5 c).length:=by unfold r4;rw [List.length_append]
 have h5:(r5 c).length=(bE c).length+(r6 c).length:=by unfold r5;rw [List.length_append]
 have h6:(r6 c).length=(bF c).length+(r7 c).length:=by unfold r6;rw [List.length_append]
 omega
theorem cr_0 {gs:List Nat} [OkG gs] (h:Good11 c):∀ n,AC gs Tryz.prog 64 [rdO n [certB c] 0] [.op 0 (some n) 0,.c (.int .i64 48)] (fun r H'=>r=.c (.bool (enterR 48 [certB c] 0).is)∧H'=[rdO n (s0 c) 0]):=fun n=>by
 have h0:=enter_ac (gs:=gs) n [certB c] 0 48 (by simp) (now_sm (ls:=[]) (by have:=(cert_len h).2.2;omega))
 rw [(rd_0 h).1,(rd_0 h).2] at h0
 exact h0
theorem cr_1 {gs:List Nat} [OkG gs] (h:Good11 c):PR gs 114 (s0 c) [.c (.int .i64 1),.c (.int .i64 1099511627776)] (.c (.int .i64 c.se)) (s1 c):=fun n=>by
 have h0:=intF_ac (gs:=gs) n (s0 c) 0 1 1099511627776 (by simp [s0]) (now_sm (by have:=(cert_len h).1;omega))
 rw [show readF ⟨3,1,1099511627776⟩ (s0 c) 0=((s1 c,0),vN4 c.se) from rd_1 h] at h0
 exact h0
theorem cr_2 {gs:List Nat} [OkG gs] (h:Good11 c):PR gs 115 (s1 c) [] (strC c.iss) (s2 c):=fun n=>by
 have h0:=octF_ac (gs:=gs) n (s1 c) 0 16 16 (by simp [s1]) (now_sm (by have:=(rest_len h).1;omega))
 rw [show readF ⟨6,16,16⟩ (s1 c) 0=((s2 c,0),vB4 (hexB c.iss)) from rd_2 h] at h0
 have h1:=ided_ac n (s1 c) (s2 c) (hexB c.iss) (by rw [hexB_len,h.hi.1]) h0
 rw [flat_hexB c.iss (by rw [h.hi.1]) h.hi.2] at h1
 exact h1
theorem cr_3 {gs:List Nat} [OkG gs] (h:Good11 c):PR gs 114 (s2 c) [.c (.int .i64 1),.c (.int .i64 1048576)] (.c (.int .i64 c.ge)) (s3 c):=fun n=>by
 have h0:=intF_ac (gs:=gs) n (s2 c) 0 1 1048576 (by simp [s2]) (now_sm (by have:=(rest_len h).2.1;omega))
 rw [show readF ⟨3,1,1048576⟩ (s2 c) 0=((s3 c,0),vN4 c.ge) from rd_3 h] at h0
 exact h0
theorem mu_two {x:List UInt8} (hx:x.length≤30000):muS ([[]]++[x]) 0≤100000:=by
 unfold muS
 rw [if_pos rfl]
 have:sumL ([[]]++[x])=x.length:=by simp [sumL]
 omega
theorem cr_4 (h:Good11 c):PR gs 116 (s3 c) [] (subjC c.who) (s4 c):=fun n=>by
 have h0:=subF_ac (gs:=gs) n (s3 c) 0 fWho rfl (by simp [s3]) (mu_two (rest_len h).2.2.1)
 rw [rd_4 h] at h0
 exact h0
theorem cr_m0 {gs:List Nat} [OkG gs] (h:Good11 c):∀ n,AC gs Tryz.prog 64 [rdO n (s4 c) 0] [.op 0 (some n) 0,.c (.int .i64 48)] (fun r H'=>r=.c (.bool (enterR 48 (s4 c) 0).is)∧H'=[rdO n (m0 c) 0]):=fun n=>by
 have h0:=enter_ac (gs:=gs) n (s4 c) 0 48 (by simp [s4]) (now_sm (by have:=(rest_len h).2.2.2.1;omega))
 rw [(rd_m0 h).1,(rd_m0 h).2] at h0
 exact h0
theorem cr_m1 {gs:List Nat} [OkG gs] (h:Good11 c):PR gs 117 (m0 c) [] (.c (.int .i64 c.nb)) (m1 c):=fun n=>by
 have h0:=momF_ac (gs:=gs) n (m0 c) 0 0 0 (by simp [m0]) (now_sm (by have:=(cert_len h).2.1;omega))
 rw [show readF ⟨9,0,0⟩ (m0 c) 0=((m1 c,0),vN4 c.nb) from rd_m1 h] at h0
 exact h0
theorem cr_m2 {gs:List Nat} [OkG gs] (h:Good11 c):PR gs 117 (m1 c) [] (.c (.int .i64 c.na)) (m2 c):=fun n=>by
 have h0:=momF_ac (gs:=gs) n (m1 c) 0 0 0 (by simp [m1]) (now_sm (by have:=(cert_len h).2.1;unfold bM at this;rw [List.length_append] at this;rw [List.append_nil];omega))
 rw [show readF ⟨9,0,0⟩ (m1 c) 0=((m2 c,0),vN4 c.na) from rd_m2 h] at h0
 exact h0
theorem cr_5 {gs:List Nat} [OkG gs]:PR gs 67 (m2 c) [] (.c (.tuple #[])) (s5 c):=fun n=>by
 have h0:=leave_ac (gs:=gs) n (m2 c) 0 (by simp [m2])
 rw [rd_5.1,rd_5.2] at h0
 exact h0
theorem cr_6 {gs:List Nat} [OkG gs] (h:Good11 c):PR gs 115 (s5 c) [] (strC c.ky) (s6 c):=fun n=>by
 have h0:=octF_ac (gs:=gs) n (s5 c) 0 16 16 (by simp [s5]) (now_sm (by have:=(rest_len h).2.2.2.2.1;omega))
 rw [show readF ⟨6,16,16⟩ (s5 c) 0=((s6 c,0),vB4 (hexB c.ky)) from rd_6 h] at h0
 have h1:=ided_ac n (s5 c) (s6 c) (hexB c.ky) (by rw [hexB_len,h.hk.1]) h0
 rw [flat_hexB c.ky (by rw [h.hk.1]) h.hk.2] at h1
 exact h1
theorem cr_7 {gs:List Nat} [OkG gs] (h:Good11 c):PR gs 118 (s6 c) [] (.c (.int .i64 c.us)) (s7 c):=fun n=>by
 have h0:=flF_ac (gs:=gs) n (s6 c) 0 (by simp [s6]) (now_sm (by have:=(rest_len h).2.2.2.2.2.1;omega))
 rw [rd_7 h] at h0
 exact h0
theorem cr_8 (h:Good11 c):PR gs 119 (s7 c) [.c (.int .i64 48),.c (.int .i64 8),.fn 120 0 fun _=>.top] (lsC c.al) s8:=fun n=>by
 have h8:=h.n8
 obtain ⟨f1,f2⟩:=row_fwd tx_ok tx_fb (tag:=48) (most:=8) [[]] (xs:=c.al) [] (by decide) h.al (by omega) (by have:=bT_len h;unfold bT at this;omega)
 have h0:=rowT_ac (gs:=gs) (f:=120) (by kernel_rfl) n (s7 c) 0 48 8 tx_ok (by simp [s7]) (by have:=mu_two (rest_len h).2.2.2.2.2.2;unfold muS at this;rw [if_pos rfl] at this;show sumL ([[]]++[r7 c])≤_;omega) (fun l k h1 h2 _=>txr_ac n l k ⟨h1.1,by omega⟩ (by have:=now_sum l;omega))
 have e:s7 c=[[]]++[putL 48 (c.al.map encT).flatten++[]]:=rfl
 rw [e] at h0 ⊢
 rw [f1,if_pos rfl,f2] at h0
 exact h0
theorem cr_9 {gs:List Nat} [OkG gs]:PR gs 67 s8 [] (.c (.tuple #[])) s9:=fun n=>by
 have h0:=leave_ac (gs:=gs) n s8 0 (by simp [s8])
 rw [show leaveL s8 0=s9 from (leave_fwd (ls:=[[]]) (by decide)).1,show leaveK s8 0=0 from (leave_fwd (ls:=[[]]) (by decide)).2] at h0
 exact h0
end
end
section
open Go.RowKit Cal
section
variable {gs:List Nat} [OkG gs] [OkT gs]
theorem ce_9 {gs:List Nat} [OkG gs]:PR gs 68 s9 [] (.err 0) s9:=fun n=>end08_ac (gs:=gs) n s9 0 (by simp [s9])
set_option maxHeartbeats 4000000 in
theorem read11_ac (c:C11) (hr:rightC c=true) (hn:c.al.length≤1000):ACp gs Tryz.prog 50 [bsC (certB c)] (.tup 2 (fl [.agg 11 (certF c),.err 0])):=by
 have hg:=good_right11 hr
 have hd:=cert_depth hg
 have hl:=(cert_len hg).2.2
 have hR:=read08_ac (gs:=gs) (certB c) (by omega)
 rw [hd] at hR
 refine ac_of 56 Tryz.func50 rfl rfl rfl (fun al w0 F0 St0=>?_)
 refine jcr ?_
 refine jqe (jeal (n:=11) zr84 rfl fun p1=>?_)
 refine jU 1651 ?_
 refine jqe (jecS hR ?_)
 rintro _ _ ⟨n,rfl,rfl⟩
 refine jU 651 ?_
 refine jqe (jeal (n:=11) zr84 rfl fun p2=>?_)
 refine jU 5 ?_;refine jE (blk_ent 2 (m:=11) (F:=fl [.c (.int .i64 0),strC [],.c (.int .i64 0),.c (.int .i64 0),strC [],strC [],.c (.int .i64 0),.c (.int .i64 0),strC [],.c (.int .i64 0),.c (.slice none 0 0)]) rfl (by decide) (fun _=>rfl) (fun j hj=>by rcases j with _|_|_|_|_|_|_|_|_|_|_|j <;> first|exact cZ|omega)) ?_;refine jU 16 ?_
 refine jqm (jmcH 1 (cr_0 hg n) ?_)
 rintro _ _ ⟨rfl,rfl⟩
 refine ⟨_,_,rfl,cZ,?_⟩
 refine jU 5 ?_
 dsimp only [List.set_cons_zero,List.set_cons_succ,List.cons_append,List.nil_append,List.length_cons,List.length_nil,Nat.zero_add,Nat.reduceAdd]
 refine jU 16 ?_
 refine jqm (jmcH 1 (cr_1 hg n) ?_)
 rintro _ _ ⟨rfl,rfl⟩
 refine ⟨_,_,rfl,cZ,?_⟩
 refine jU 90 ?_
 refine jqm (jmstF 1 (fl [.c (.int .i64 c.se),strC [],.c (.int .i64 0),.c (.int .i64 0),strC [],strC [],.c (.int .i64 0),.c (.int .i64 0),strC [],.c (.int .i64 0),.c (.slice none 0 0)]) ?_ ?_)
 ·exact (fun j hj=>by rcases j with _|_|_|_|_|_|_|_|_|_|_|j <;> exact cZ)
 refine jU 5 ?_
 dsimp only [List.set_cons_zero,List.set_cons_succ,List.cons_append,List.nil_append,List.length_cons,List.length_nil,Nat.zero_add,Nat.reduceAdd]
 refine jU 16 ?_
 refine jqm (jmcH 1 (cr_2 hg n) ?_)
 rintro _ _ ⟨rfl,rfl⟩
 refine ⟨_,_,rfl,cZ,?_⟩
 refine jU 100 ?_
 refine jqm (jmstF 1 (fl [.c (.int .i64 c.se),strC c.iss,.c (.int .i64 0),.c (.int .i64 0),strC [],strC [],.c (.int .i64 0),.c (.int .i64 0),strC [],.c (.int .i64 0),.c (.slice none 0 0)]) ?_ ?_)
 ·exact (fun j hj=>by rcases j with _|_|_|_|_|_|_|_|_|_|_|j <;> exact cZ)
 refine jU 5 ?_
 dsimp only [List.set_cons_zero,List.set_cons_succ,List.cons_append,List.nil_append,List.length_cons,List.length_nil,Nat.zero_add,Nat.reduceAdd]
 refine jU 16 ?_
 refine jqm (jmcH 1 (cr_3 hg n) ?_)
 rintro _ _ ⟨rfl,rfl⟩
 refine ⟨_,_,rfl,cZ,?_⟩
 refine jU 1000 ?_
 refine jqm (jmstF 1 (fl [.c (.int .i64 c.se),strC c.iss,.c (.int .i64 c.ge),.c (.int .i64 0),strC [],strC [],.c (.int .i64 0),.c (.int .i64 0),strC [],.c (.int .i64 0),.c (.slice none 0 0)]) ?_ ?_)
 ·exact (fun j hj=>by rcases j with _|_|_|_|_|_|_|_|_|_|_|j <;> exact cZ)
 refine jU 5 ?_
 dsimp only [List.set_cons_zero,List.set_cons_succ,List.cons_append,List.nil_append,List.length_cons,List.length_nil,Nat.zero_add,Nat.reduceAdd]
 refine jU 16 ?_
 refine jqm (jmcH 1 (cr_4 hg n) ?_)
 rintro _ _ ⟨rfl,rfl⟩
 refine ⟨_,_,rfl,cZ,?_⟩
 refine jq (jrfa 3 3 true) ?_
 refine jqm (jmstF 3 (fl [.c (.int .i64 c.se),strC c.iss,.c (.int .i64 c.ge),.c (.int .i64 c.who.1),strC c.who.2.1,strC c.who.2.2,.c (.int .i64 0),.c (.int .i64 0),strC [],.c (.int .i64 0),.c (.slice none 0 0)]) ?_ ?_)
 ·exact (fun j hj=>by rcases j with _|_|_|_|_|_|_|_|_|_|_|j <;> exact cZ)
 refine jU 5 ?_
 dsimp only [List.set_cons_zero,List.set_cons_succ,List.cons_append,List.nil_append,List.length_cons,List.length_nil,Nat.zero_add,Nat.reduceAdd]
 refine jU 16 ?_
 refine jqm (jmcH 1 (cr_m0 hg n) ?_)
 rintro _ _ ⟨rfl,rfl⟩
 refine ⟨_,_,rfl,cZ,?_⟩
 refine jU 5 ?_
 dsimp only [List.set_cons_zero,List.set_cons_succ,List.cons_append,List.nil_append,List.length_cons,List.length_nil,Nat.zero_add,Nat.reduceAdd]
 refine jU 16 ?_
 refine jqm (jmcH 1 (cr_m1 hg n) ?_)
 rintro _ _ ⟨rfl,rfl⟩
 refine ⟨_,_,rfl,cZ,?_⟩
 refine jU 1 ?_
 refine jqm (jmcH 1 (cr_m2 hg n) ?_)
 rintro _ _ ⟨rfl,rfl⟩
 refine ⟨_,_,rfl,cZ,?_⟩
 refine jU 20000000 ?_
 refine jqm (jmstF 1 (fl [.c (.int .i64 c.se),strC c.iss,.c (.int .i64 c.ge),.c (.int .i64 c.who.1),strC c.who.2.1,strC c.who.2.2,.c (.int .i64 c.nb),.c (.int .i64 0),strC [],.c (.int .i64 0),.c (.slice none 0 0)]) ?_ ?_)
 ·exact (fun j hj=>by rcases j with _|_|_|_|_|_|_|_|_|_|_|j <;> exact cZ)
 refine jq (jrfa 7 1 false) ?_
 refine jqm (jmstF 1 (fl [.c (.int .i64 c.se),strC c.iss,.c (.int .i64 c.ge),.c (.int .i64 c.who.1),strC c.who.2.1,strC c.who.2.2,.c (.int .i64 c.nb),.c (.int .i64 c.na),strC [],.c (.int .i64 0),.c (.slice none 0 0)]) ?_ ?_)
 ·exact (fun j hj=>by rcases j with _|_|_|_|_|_|_|_|_|_|_|j <;> exact cZ)
 refine jU 5 ?_
 dsimp only [List.set_cons_zero,List.set_cons_succ,List.cons_append,List.nil_append,List.length_cons,List.length_nil,Nat.zero_add,Nat.reduceAdd]
 refine jU 16 ?_
 refine jqm (jmcH 1 (cr_5 n) ?_)
 rintro _ _ ⟨rfl,rfl⟩
 refine ⟨_,_,rfl,cZ,?_⟩
 refine jU 5 ?_
 dsimp only [List.set_cons_zero,List.set_cons_succ,List.cons_append,List.nil_append,List.length_cons,List.length_nil,Nat.zero_add,Nat.reduceAdd]
 refine jU 16 ?_
 refine jqm (jmcH 1 (cr_6 hg n) ?_)
 rintro _ _ ⟨rfl,rfl⟩
 refine ⟨_,_,rfl,cZ,?_⟩
 refine jq (jrfa 8 1 false) ?_
 refine jqm (jmstF 1 (fl [.c (.int .i64 c.se),strC c.iss,.c (.int .i64 c.ge),.c (.int .i64 c.who.1),strC c.who.2.1,strC c.who.2.2,.c (.int .i64 c.nb),.c (.int .i64 c.na),strC c.ky,.c (.int .i64 0),.c (.slice none 0 0)]) ?_ ?_)
 ·exact (fun j hj=>by rcases j with _|_|_|_|_|_|_|_|_|_|_|j <;> exact cZ)
 refine jU 5 ?_
 dsimp only [List.set_cons_zero,List.set_cons_succ,List.cons_append,List.nil_append,List.length_cons,List.length_nil,Nat.zero_add,Nat.reduceAdd]
 refine jU 16 ?_
 refine jqm (jmcH 1 (cr_7 hg n) ?_)
 rintro _ _ ⟨rfl,rfl⟩
 refine ⟨_,_,rfl,cZ,?_⟩
 refine jq (jrfa 9 1 false) ?_
 refine jqm (jmstF 1 (fl [.c (.int .i64 c.se),strC c.iss,.c (.int .i64 c.ge),.c (.int .i64 c.who.1),strC c.who.2.1,strC c.who.2.2,.c (.int .i64 c.nb),.c (.int .i64 c.na),strC c.ky,.c (.int .i64 c.us),.c (.slice none 0 0)]) ?_ ?_)
 ·exact (fun j hj=>by rcases j with _|_|_|_|_|_|_|_|_|_|_|j <;> exact cZ)
 refine jU 5 ?_
 dsimp only [List.set_cons_zero,List.set_cons_succ,List.cons_append,List.nil_append,List.length_cons,List.length_nil,Nat.zero_add,Nat.reduceAdd]
 refine jU 16 ?_
 refine jqm (jmcH 1 (cr_8 hg n) ?_ (ho:=rfl) (he:=(.cons (se rfl cP) (.cons (se rfl cZ) (.cons (se rfl cZ) (.cons (se rfl CEnt.fn0) .nil))))))
 rintro _ _ ⟨rfl,rfl⟩
 refine ⟨_,_,rfl,cZ,?_⟩
 refine jq (jrfa 10 1 false) ?_
 refine jqm (jmstF 1 (fl [.c (.int .i64 c.se),strC c.iss,.c (.int .i64 c.ge),.c (.int .i64 c.who.1),strC c.who.2.1,strC c.who.2.2,.c (.int .i64 c.nb),.c (.int .i64 c.na),strC c.ky,.c (.int .i64 c.us),lsC c.al]) ?_ ?_)
 ·exact (fun j hj=>by rcases j with _|_|_|_|_|_|_|_|_|_|_|j <;> exact cZ)
 refine jU 5 ?_
 dsimp only [List.set_cons_zero,List.set_cons_succ,List.cons_append,List.nil_append,List.length_cons,List.length_nil,Nat.zero_add,Nat.reduceAdd]
 refine jU 16 ?_
 refine jqm (jmcH 1 (cr_9 n) ?_)
 rintro _ _ ⟨rfl,rfl⟩
 refine ⟨_,_,rfl,cZ,?_⟩
 refine jU 75 ?_
 dsimp only [List.set_cons_zero,List.set_cons_succ,List.cons_append,List.nil_append,List.length_cons,List.length_nil,Nat.zero_add,Nat.reduceAdd]
 refine jU 16 ?_
 refine jqm (jmcH 1 (ce_9 n) ?_)
 rintro _ _ ⟨rfl,rfl⟩
 refine ⟨_,_,rfl,cZ,?_⟩
 refine jU 51 ?_
 dsimp only [List.set_cons_zero,List.set_cons_succ,List.cons_append,List.nil_append,List.length_cons,List.length_nil,Nat.zero_add,Nat.reduceAdd]
 refine jU 550000016 ?_;refine jcc (fun h93=>?_) fun h93=>?_
 ·refine jcr ?_;refine jq (rd_build (n:=11) rfl zr84 pl84 rfl rfl) ?_;refine jU 1 ?_
  refine jqm (jmst 11 ?_)
  refine jU 51 ?_
  refine jR (jtr (jrt (hres:=res_2 rfl (javA 11) javt) (hv:=absurd rfl h93)))
 refine jU 67810 ?_;refine jqo (jrdoA 11) ?_
 refine jqe (jecP (right11_ac c hn) ?_ (ho:=rfl) (he:=(.cons (se rfl (CEnt.agg rfl (fun j hj=>by rcases j with _|_|_|_|_|_|_|_|_|_|_|j <;> exact cZ))) .nil)))
 refine jU 530 ?_;refine jcc (fun h96=>?_) fun h96=>?_
 rotate_left
 ·refine jU 6810 ?_;refine jqo (jrdoA 11) ?_
  refine jqm (jmst 11 ?_)
  refine jU 51 ?_
  refine jR (jrt (hres:=res_2 rfl (javA 11) javt) (hv:=cT (CEnt.agg rfl (fun j hj=>by rcases j with _|_|_|_|_|_|_|_|_|_|_|j <;> first|exact cZ|omega)) CEnt.nil))
 refine jcs ?_;refine jcdZ (.rd 0 (.rd 1 (.one 2 (.rd 3 .done)))) ?_;refine jzq (rd_build (n:=11) rfl zr84 pl84 rfl rfl) ?_;refine jzq (jrde 3) ?_
 refine jzm (jmst 11 ?_)
 refine jU 8700000400000 ?_
 refine jR (jtr (jrt (hres:=res_2 rfl (javA 11) javt) (hv:=absurd h96 (by rw [hr];decide))))
end
end
section
open Go.RowKit Cal

end
end Am
end Go.Proofs.YthlpfjnkieaeeaaGreatDoor
