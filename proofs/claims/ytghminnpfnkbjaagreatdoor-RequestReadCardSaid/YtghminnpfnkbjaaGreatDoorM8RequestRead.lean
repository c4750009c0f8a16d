/- What the law leans on, part 8: W07p, P07c, W07, L07, P09n, W07l, W07q, W08m, W08n, W08v, W08w, W08x, P08b, W08a, W08b -/
import Derived.Test.YtghminnpfnkbjaaGreatDoorM7RequestRead

set_option maxRecDepth 100000
set_option maxHeartbeats 8000000
namespace Go.Proofs.YtghminnpfnkbjaaGreatDoor
set_option linter.unusedVariables false
namespace Am
open Go.RowKit
theorem EL {gs:List Nat} [qI gs] (l:Z) (hl:l.length≤1000000000):cc gs Tryz.prog 201 [an l] (.c (.bool (gi l))):=by
 refine aj 18 Tryz.func201 fun al w0 F0 St0=>?_;refine U 167516 ?_
 refine au (R9 rfl rfl Tryz.underlying9 rfl rfl (fun p1=>?_))
 refine U 205 ?_;refine ax (α:=Nat) [2,4,7,8,9,10,11,12,13,14,15] (fun i=>[]) (fun i=>[(some p1,.obj (rz ⟨l.toArray⟩ i))]) (fun i=>i≤l.length∧tu (l.drop i)=tu l) (fun i=>l.length-i) (0) ?_ (fun _=>rfl) ?_ ?_ ?_
 ·exact ⟨YT _,rfl⟩
 ·exact .nil
 ·exact .same .nil
 ·rintro i ⟨hi,he⟩
  refine dP ?_
  refine Lq (bw rfl) (UA rfl rfl rfl rfl rfl (fun n23=>?_) (fun n23=>?_))
  ·refine U 51900620810900075900 ?_
   have hd:=Ve l i
   have hlt:i<l.length:=n23
   have hne:l.drop i≠[]:=by intro e;have:=Y3 List.length e;simp at this;omega
   have hw:=lT (l.drop i)
   have hwl:=Sj hne
   simp only [YN] at hwl
   rw [← hd] at hw hwl
   refine U 1216 ?_;refine aK 12 (fun g24=>?_) fun g24=>?_
   ·refine U 8000300050003000500070005169000510000000044 ?_;refine cB ?_
    rw [rk,← he,pk hne,← hd,YF ?_]
    ·rfl
    ·unfold u0;simp only [Zx,YP];omega
   refine U 550021 ?_;refine ap (fun h24=>?_) fun h24=>?_
   ·refine U 800030005000300050007000516 ?_;refine cB ?_
    rw [rk,← he,pk hne,← hd,YF ?_]
    ·rfl
    ·unfold u0;simp only [Zx,YP];omega
   refine U 840010 ?_
   refine aw (i+(Utf8.decode ⟨l.toArray⟩ i).2) ?_ ?_ (h5:=?_) (h7:=?_)
   ·refine ⟨by omega,?_⟩
    have hb:¬ u0 (Utf8.decode ⟨l.toArray⟩ i).1=true:=by unfold u0;simp only [Zx,YP];omega
    rw [← he,pk hne,← hd,YE hb,ZX]
   ·show l.length-(i+(Utf8.decode ⟨l.toArray⟩ i).2)<l.length-i;omega
   ·exact .nil
   ·exact .same .nil
  ·refine U 168400020002000600030075900 ?_
   refine au (ar (KD l O) ?_)
   refine U 8000700051 ?_;refine cB ?_
   have e:l.drop i=[]:=ZE (bgx n23)
   rw [rk,← he,e]
   rfl


theorem Ih {gs:List Nat} (l:Z) (hl:l.length≤1000000000):cc gs Tryz.prog 212 [an l] (.c (.bool (gi l))):=by
 refine aj 94 Tryz.func212 fun al w0 F0 St0=>?_;refine U 207516516 ?_;refine ax (α:=Nat) [2,3,4,5,6,7,8,9,10,11,12,13,14,15,16,17,18,19,20,21,22,23,24,25,26,27,28,29,30,31,32,33,34,35,36,37,38,39,40,41,42,43,44,45,46,47,48,49,50,51,52,53,54,55,56,57,58,59,60,61,62,63,64,65,66,67,68,69,70,71,72,73,74,75,76,77,78,79,80,81,82,83,84,85,86,87,88,89,90,91,92,93] (fun i=>[(3,.c (.int .i64 (i:Nat)))]) (fun _=>[]) (fun i=>i≤l.length∧gi (l.drop i)=gi l) (fun i=>l.length-i) (0) ?_ (fun _=>rfl) ?_ ?_ ?_
 ·exact ⟨YT _,rfl⟩
 ·exact .cons I .nil
 ·(repeat (exact aP.nil))
 ·rintro i ⟨hi,he⟩
  refine U 52400001167 ?_;refine ap (fun h9=>?_) fun h9=>?_
  rotate_left
  ·refine U 8000700051684000200020006000 ?_;refine cB ?_
   rw [← he,ZE O]
   rfl
  refine U 5111700000008000000011620810 ?_
  have hlt:i<l.length:=by omega
  have hne:l.drop i≠[]:=by intro e;have:=Y3 List.length e;simp at this;omega
  obtain ⟨b,hb⟩:∃ b,b=bt (l.drop i) 0:=⟨_,rfl⟩
  have hbl:b<256:=by rw [hb];exact uK _ _
  refine dW (α:=Nat×Nat×Nat) [2,4,5,6,15,16,17,18,19,20,21,22,23,24,25,26,27,28,29,30,31,32,33,34,35,36,37,38,39,40,41,42,43,44,45,46] (fun (n,c,z)=>[(4,.c (.int .i64 (c:Nat))),(5,.c (.int .i64 (n:Nat))),(6,.c (.int .i64 (z:Nat)))]) (fun _=>[]) (fun (n,c,z)=>gO (bt (l.drop i) 0) n c z) (fun _=>rfl) ?_ ?_
  ·refine jE (aS 4 (.c (.int .i64 (b:Nat))) (cI (by rw [hb,qv];rfl))) ?_;refine U 5216 ?_;refine ap (fun h11=>?_) fun h11=>?_
   ·refine U 1216 ?_;refine aK 19 (fun g12=>?_) fun g12=>?_
    ·refine U 80003000500030005000300070005169000510000000044 ?_;refine cB ?_
     rw [← he,pR hne (by rw [← hb];omega),YF (by rw [← hb];omega)]
    refine U 550021 ?_;refine ap (fun h12=>?_) fun h12=>?_
    rotate_left
    ·refine U 810 ?_
     refine cU ((0,b,0)) ?_ (h5:=?_)
     ·show gO (bt (l.drop i) 0) _ _ _
      rw [← hb];unfold gO;omega
     ·exact .cons (cI O) (.cons (cI O) (.cons (cI O) .nil))
    refine U 8000300050003000500030007000516 ?_;refine cB ?_
    rw [← he,pR hne (by rw [← hb];omega),YF (by rw [← hb];omega)]
   refine U 1216 ?_;refine aK 25 (fun g15=>?_) fun g15=>?_
   rotate_left
   ·refine U 1216300550044 ?_;refine aK 33 (fun g17=>?_) fun g17=>?_
    rotate_left
    ·refine U 1216300550044 ?_;refine aK 41 (fun g19=>?_) fun g19=>?_
     rotate_left
     ·refine U 8000300050003000500030007000516300550044 ?_;refine cB ?_
      rw [← he,iz hne (eU (by rw [← hb];omega) (by rw [← hb];omega))]
     refine U 510000000021 ?_;refine ap (fun h19=>?_) fun h19=>?_
     rotate_left
     ·refine U 8000300050003000500030007000516 ?_;refine cB ?_
      rw [← he,iz hne (eU (by rw [← hb];omega) (by rw [← hb];omega))]
     refine U 8511191200 ?_
     refine cU ((3,b-240,65536)) ?_ (h5:=?_)
     ·show gO (bt (l.drop i) 0) _ _ _
      rw [← hb];unfold gO;omega
     ·exact .cons (cI O) (.cons (cI O) (.cons (cI O) .nil))
    refine U 510000000021 ?_;refine ap (fun h17=>?_) fun h17=>?_
    ·refine U 8511191200 ?_
     refine cU ((3,b-240,65536)) ?_ (h5:=?_)
     ·show gO (bt (l.drop i) 0) _ _ _
      rw [← hb];unfold gO;omega
     ·exact .cons (cI O) (.cons (cI O) (.cons (cI O) .nil))
    refine U 1216 ?_;refine aK 41 (fun g19=>?_) fun g19=>?_
    rotate_left
    ·refine U 8000300050003000500030007000516300550044 ?_;refine cB ?_
     rw [← he,iz hne (eU (by rw [← hb];omega) (by rw [← hb];omega))]
    refine U 510000000021 ?_;refine ap (fun h19=>?_) fun h19=>?_
    rotate_left
    ·refine U 8000300050003000500030007000516 ?_;refine cB ?_
     rw [← he,iz hne (eU (by rw [← hb];omega) (by rw [← hb];omega))]
    refine U 8511191200 ?_
    refine cU ((3,b-240,65536)) ?_ (h5:=?_)
    ·show gO (bt (l.drop i) 0) _ _ _
     rw [← hb];unfold gO;omega
    ·exact .cons (cI O) (.cons (cI O) (.cons (cI O) .nil))
   refine U 510000000021 ?_;refine ap (fun h15=>?_) fun h15=>?_
   ·refine U 8511191200 ?_
    refine cU ((1,b-192,128)) ?_ (h5:=?_)
    ·show gO (bt (l.drop i) 0) _ _ _
     rw [← hb];unfold gO;omega
    ·exact .cons (cI O) (.cons (cI O) (.cons (cI O) .nil))
   refine U 1216 ?_;refine aK 33 (fun g17=>?_) fun g17=>?_
   rotate_left
   ·refine U 1216300550044 ?_;refine aK 41 (fun g19=>?_) fun g19=>?_
    rotate_left
    ·refine U 8000300050003000500030007000516300550044 ?_;refine cB ?_
     rw [← he,iz hne (eU (by rw [← hb];omega) (by rw [← hb];omega))]
    refine U 510000000021 ?_;refine ap (fun h19=>?_) fun h19=>?_
    rotate_left
    ·refine U 8000300050003000500030007000516 ?_;refine cB ?_
     rw [← he,iz hne (eU (by rw [← hb];omega) (by rw [← hb];omega))]
    refine U 8511191200 ?_
    refine cU ((3,b-240,65536)) ?_ (h5:=?_)
    ·show gO (bt (l.drop i) 0) _ _ _
     rw [← hb];unfold gO;omega
    ·exact .cons (cI O) (.cons (cI O) (.cons (cI O) .nil))
   refine U 510000000021 ?_;refine ap (fun h17=>?_) fun h17=>?_
   ·refine U 8511191200 ?_
    refine cU ((2,b-224,2048)) ?_ (h5:=?_)
    ·show gO (bt (l.drop i) 0) _ _ _
     rw [← hb];unfold gO;omega
    ·exact .cons (cI O) (.cons (cI O) (.cons (cI O) .nil))
   refine U 1216 ?_;refine aK 41 (fun g19=>?_) fun g19=>?_
   rotate_left
   ·refine U 8000300050003000500030007000516300550044 ?_;refine cB ?_
    rw [← he,iz hne (eU (by rw [← hb];omega) (by rw [← hb];omega))]
   refine U 510000000021 ?_;refine ap (fun h19=>?_) fun h19=>?_
   rotate_left
   ·refine U 8000300050003000500030007000516 ?_;refine cB ?_
    rw [← he,iz hne (eU (by rw [← hb];omega) (by rw [← hb];omega))]
   refine U 8511191200 ?_
   refine cU ((3,b-240,65536)) ?_ (h5:=?_)
   ·show gO (bt (l.drop i) 0) _ _ _
    rw [← hb];unfold gO;omega
   ·exact .cons (cI O) (.cons (cI O) (.cons (cI O) .nil))
  ·rintro ⟨n0,c0,least⟩ hR0
   have hR:gO (bt (l.drop i) 0) n0 c0 least:=hR0
   clear hR0
   have hRb:=hR
   rw [← hb] at hRb
   unfold gO at hRb
   have hn3:n0≤3:=by omega
   have hc128:c0<128:=by omega
   have hl6:least≤65536:=by omega
   clear hRb
   refine U 20751916 ?_;refine ax (α:=Nat) [2,3,4,5,49,50,51,52,53,54,55,56,57,58,59,60,61,62,63,64,65,66,67,68,69,70,71,72,73,74,75,76,77,78] (fun j=>[(3,.c (.int .i64 (((i+1+j:Nat):Int)))),(4,.c (.int .i64 (cR (l.drop i) c0 j:Nat))),(5,.c (.int .i64 ((n0-j:Nat):Int)))]) (fun _=>[]) (fun j=>j≤n0∧i+1+j≤l.length∧∀ q,1≤q→q≤j→128≤bt (l.drop i) q∧bt (l.drop i) q≤191) (fun j=>n0-j) (0) ?_ (fun _=>rfl) ?_ ?_ ?_
   ·exact ⟨YT _,by omega,fun q h1 h2=>by omega⟩
   ·exact .cons (cI O) (.cons I (.cons I .nil))
   ·(repeat (exact aP.nil))
   ·rintro j ⟨hj,hil,hq⟩
    have hcb:=WT (d:=l.drop i) (c0:=c0) (j:=j) O hc128 hq
    refine U 52167 ?_;refine ap (fun h25=>?_) fun h25=>?_
    rotate_left
    ·refine U 84000200020006000 ?_
     have hjn:j=n0:=by omega
     subst hjn
     obtain ⟨C,hjn⟩:∃ C,C=cR (l.drop i) c0 j:=⟨_,rfl⟩
     rw [← hjn] at hcb
     refine jE (aS 4 (.c (.int .i64 (C:Nat))) (cI (by rw [hjn]))) ?_;refine U 12116 ?_;refine aK 82 (fun g32=>?_) fun g32=>?_
     ·refine U 80003000500030005000700051690005100000000444444110000000044 ?_;refine cB ?_
      rw [← he,rX hne hR (by rw [YN];omega) hq,YF (by rw [← hjn];omega)]
     refine U 150021 ?_;refine aK 86 (fun g32_2=>?_) fun g32_2=>?_
     ·refine U 80003000500030005000700051690005100000000444444 ?_;refine cB ?_
      rw [← he,rX hne hR (by rw [YN];omega) hq,YF (by rw [← hjn];omega)]
     refine U 121 ?_;refine aK 89 (fun g32_3=>?_) fun g32_3=>?_
     rotate_left
     ·refine U 840010300550050044 ?_
      refine aw (i+(1+j)) ?_ ?_ (h5:=?_)
      ·refine ⟨by omega,?_⟩
       rw [← he,rX hne hR (by rw [YN];omega) hq,YE (by rw [← hjn];omega),ZX]
      ·show l.length-(i+(1+j))<l.length-i;omega
      ·exact .cons (cI O) .nil
     refine U 550010000000021 ?_;refine ap (fun h32=>?_) fun h32=>?_
     ·refine U 800030005000300050007000516 ?_;refine cB ?_
      rw [← he,rX hne hR (by rw [YN];omega) hq,YF (by rw [← hjn];omega)]
     refine U 840010 ?_
     refine aw (i+(1+j)) ?_ ?_ (h5:=?_)
     ·refine ⟨by omega,?_⟩
      rw [← he,rX hne hR (by rw [YN];omega) hq,YE (by rw [← hjn];omega),ZX]
     ·show l.length-(i+(1+j))<l.length-i;omega
     ·exact .cons (cI O) .nil
    refine U 7207810 ?_
    obtain ⟨x,hx⟩:∃ x,x=bt (l.drop i) (j+1):=⟨_,rfl⟩
    have NU:(l.getD (i+1+j) 0).toNat=x:=by rw [hx,qv,show i+(j+1)=i+1+j by omega];rfl
    have hxl:x<256:=by rw [hx];exact uK _ _
    refine U 1240000116 ?_;refine aK 57 (fun g26=>?_) fun g26=>?_
    ·refine U 80003000500030005000300050003000300050003000700051690005100000000444411000000004444 ?_;refine cB ?_
     rw [← he,wy hne hR (show j<n0 by omega) (by rw [← hx,YN];omega)]
    refine U 150028000000011 ?_;refine aK 63 (fun g26_2=>?_) fun g26_2=>?_
    ·refine U 800030005000300050003000500030003000500030007000516900051000000004444 ?_;refine cB ?_
     rw [← he,wy hne hR (show j<n0 by omega) (by rw [← hx,YN];omega)]
    refine U 550028000000011 ?_;refine ap (fun h26=>?_) fun h26=>?_
    ·refine U 800030005000300050003000500030003000500030007000516 ?_;refine cB ?_
     rw [← he,wy hne hR (show j<n0 by omega) (by rw [← hx,YN];omega)]
    refine U 85191200840051912005199700000008000000011916810 ?_
    refine aw (j+1) ?_ ?_ (h5:=?_)
    ·refine ⟨by omega,by omega,fun q h1 h2=>?_⟩
     by_cases e:q=j+1
     ·rw [e,← hx];omega
     ·exact hq q h1 O
    ·show n0-(j+1)<n0-j;omega
    ·exact .cons (cI O) (.cons (cI (by show _=((cR (l.drop i) c0 j * 64+bt (l.drop i) (j+1)-128:Nat):Int);rw [← hx];omega)) (.cons (cI O) .nil))
theorem P8 {M i b:Nat} (h:i≤b):Int.fdiv ((M:Nat):Int) (2 ^ (min ((i:Nat):Int).toNat b))=((M / 2 ^ i:Nat):Int):=by
 rw [azx,bSx h,show ((2:Int) ^ i)=((2 ^ i:Nat):Int) by push_cast;rfl,Zz _ (Int.natCast_nonneg _)]
 exact (a1x M (2 ^ i)).symm
theorem En (n:Int):IntKind.u16.wrap n=n % 65536:=by simp [IntKind.wrap,IntKind.bits,IntKind.signed]
theorem va {M:Nat} (z:Int) (hz:z=8):IntKind.u16.wrap (((M:Nat):Int) * 2 ^ (min z.toNat 16))=((M % 256 * 256:Nat):Int):=by
 subst hz
 rw [En,show min (8:Int).toNat 16=8 from rfl,show ((2:Int) ^ 8)=256 from rfl]
 omega
theorem F7 {M:Nat} (z:Int) (hz:z=8):Int.fdiv ((M:Nat):Int) (2 ^ (min z.toNat 16))=((M / 256:Nat):Int):=by
 subst hz
 rw [show min (8:Int).toNat 16=8 from rfl,show ((2:Int) ^ 8)=((256:Nat):Int) from rfl,Zz _ O]
 exact (a1x M 256).symm
theorem P9 {M:Nat} (z:Int) (hz:z=8):Int.fdiv ((M:Nat):Int) (2 ^ (min z.toNat 64))=((M / 256:Nat):Int):=by
 subst hz
 rw [show min (8:Int).toNat 64=8 from rfl,show ((2:Int) ^ 8)=((256:Nat):Int) from rfl,Zz _ O]
 exact (a1x M 256).symm
theorem Vh {a:Nat} (h:a<65536):BitVec.ofInt 16 ((a:Nat):Int)=BitVec.ofNat 16 a:=by
 apply BitVec.eq_of_toNat_eq;simp
theorem Vt {M:Nat} (h:M<65536):IntKind.u16.wrap ((BitVec.ofInt 16 ((M:Nat):Int) &&& BitVec.ofInt 16 255).toNat:Int)=((M % 256:Nat):Int):=by
 have e:(BitVec.ofInt 16 ((M:Nat):Int) &&& BitVec.ofInt 16 255).toNat=M % 256:=by
  rw [Vh h,show BitVec.ofInt 16 (255:Int)=BitVec.ofNat 16 255 from rfl,BitVec.toNat_and,BitVec.toNat_ofNat,BitVec.toNat_ofNat,Z8 (show M<2 ^ 16 from h)]
  exact aJx M 8
 rw [e,En];omega
theorem SY {a b:Nat} (ha:a<256) (hb:b<256):IntKind.u16.wrap ((BitVec.ofInt 16 ((a:Nat):Int) ||| BitVec.ofInt 16 ((b * 256:Nat):Int)).toNat:Int)=((a+256 * b:Nat):Int):=by
 have e:(BitVec.ofInt 16 ((a:Nat):Int) ||| BitVec.ofInt 16 ((b * 256:Nat):Int)).toNat=a+256 * b:=by
  rw [Vh O,Vh O,BitVec.toNat_or,BitVec.toNat_ofNat,BitVec.toNat_ofNat,Z8 (show a<2 ^ 16 by omega),Z8 (show b * 256<2 ^ 16 by omega),Nat.or_comm]
  have:=Nat.two_pow_add_eq_or_of_lt (i:=8) (b:=a) O b
  rw [show b * 256=2 ^ 8 * b by omega,← this];omega
 rw [e,En];omega
theorem SX {a b:Nat} (ha:a<256) (hb:b<256):IntKind.u16.wrap ((BitVec.ofInt 16 ((b * 256:Nat):Int) ||| BitVec.ofInt 16 ((a:Nat):Int)).toNat:Int)=((a+256 * b:Nat):Int):=by
 rw [BitVec.or_comm];exact SY ha hb
theorem Xi {i:Nat} (h:i≤62):IntKind.i64.wrap (1 * 2 ^ (min ((i:Nat):Int).toNat 64))=((2 ^ i:Nat):Int):=by
 have:=ZA (n:=2) jD h
 obtain ⟨q,hq⟩:∃ q,q=2 ^ i:=⟨_,rfl⟩
 have h0:q≤4611686018427387904:=by rw [hq];exact this
 clear this
 rw [azx,bSx O,Int.one_mul,show ((2:Int) ^ i)=((2 ^ i:Nat):Int) by push_cast;rfl,← hq]
 exact cC (k:=.i64) (by show _∧_;omega)

def dc (b:Z):Nat:=da (b.getD 1 0).toNat+256 * (if b.length=3 then da (b.getD 2 0).toNat else 0)
theorem Kg {b:Z} {i:Nat} (hl:b.length≤3) (hi:i<(b.length-1) * 8):(b.getD (1+i / 8) 0).toNat / 2 ^ (7-i % 8) % 2=dc b / 2 ^ i % 2:=by
 have hy:(b.getD 1 0).toNat<256:=Zk _
 have hz:(b.getD 2 0).toNat<256:=Zk _
 have h1:=eo hy
 have h2:=eo hz
 unfold dc
 by_cases h:i<8
 ·rw [show i / 8=0 by omega,show i % 8=i by omega,Cy hy h]
  generalize da (b.getD 1 0).toNat=p
  generalize (if b.length=3 then da (b.getD 2 0).toNat else 0)=q
  have e:256=2 ^ i * (2 * 2 ^ (7-i)):=by
   rw [← Nat.pow_succ',← bkx,show i+(7-i+1)=8 by omega]
  rw [e,Nat.mul_assoc,Nat.add_mul_div_left _ _ (aUx i),Nat.mul_assoc,Nat.add_mul_mod_self_left]
 ·have h3:b.length=3:=by omega
  rw [YF h3,show i / 8=1 by omega,show i % 8=i-8 by omega,Cy hz O]
  rw [show (2:Nat) ^ i=256 * 2 ^ (i-8) by rw [show i=8+(i-8) by omega,bkx];simp,← bMx,show (da (b.getD 1 0).toNat+256 * da (b.getD 2 0).toNat) / 256=da (b.getD 2 0).toNat by omega]
theorem O3 {b:Z} (hl:b.length≤3):dc b<2 ^ ((b.length-1) * 8)∨b.length≤1:=by
 have h1:=eo (Zk (b.getD 1 0))
 have h2:=eo (Zk (b.getD 2 0))
 unfold dc
 by_cases h3:b.length=3
 ·left;rw [YF h3,h3];simp only [Nat.reduceSub,Nat.reduceMul,Nat.reducePow];omega
 ·by_cases h4:b.length=2
  ·left;rw [YE h3,h4];simp only [Nat.reduceSub,Nat.reduceMul,Nat.reducePow];omega
  ·right;omega
theorem Je {b:Z} (h0:b.length≠0) (hl:b.length≤3) (hx:(b.getD 0 0).toNat<8) (hn:(b.getD 0 0).toNat≤(b.length-1) * 8) :
  aZ b=if b.length=1 then (0,0) else if 2 ^ ((b.length-1) * 8-(b.getD 0 0).toNat)≤dc b∨dc b<2 ^ ((b.length-1) * 8-(b.getD 0 0).toNat-1) then (0,4) else if 32768≤dc b then (0,1) else (dc b,0):=by
 have hy:(b.getD 1 0).toNat<256:=Zk _
 have hz:(b.getD 2 0).toNat<256:=Zk _
 have h1:=eo hy
 have h2:=eo hz
 unfold aZ
 rw [YE h0,jK]
 by_cases h1l:b.length=1
 ·rw [YF h1l,YF h1l]
 rw [YE h1l,YE h1l]
 have key:(mY (b.getD (b.length-1) 0).toNat≠(b.getD 0 0).toNat)↔(2 ^ ((b.length-1) * 8-(b.getD 0 0).toNat)≤dc b∨dc b<2 ^ ((b.length-1) * 8-(b.getD 0 0).toNat-1)):=by
  by_cases h3:b.length=3
  ·rw [h3]
   rw [show 3-1=2 from rfl,CT hz hx]
   unfold dc
   rw [YF h3]
   generalize hx':(b.getD 0 0).toNat=x at *
   rw [show 2 * 8-x=8+(8-x) by omega,show 8+(8-x)-1=8+(7-x) by omega,bkx,bkx]
   simp only [Nat.reducePow]
   omega
  ·have h2l:b.length=2:=by omega
   rw [h2l]
   rw [show 2-1=1 from rfl,CT hy hx]
   unfold dc
   rw [YE h3]
   generalize hx':(b.getD 0 0).toNat=x at *
   rw [show 1 * 8-x=8-x by omega,show 8-x-1=7-x by omega,bJx,Zt]
 by_cases hk:mY (b.getD (b.length-1) 0).toNat≠(b.getD 0 0).toNat
 ·rw [YF hk,YF (key.1 hk)]
 ·rw [YE hk,YE (fun h=>hk (key.2 h))]
  rfl
theorem Ln {M b:Nat} {z:Int} (q:Nat) (hz:z=(q:Int)) (h:q≤b):Int.fdiv ((M:Nat):Int) (2 ^ (min z.toNat b))=((M / 2 ^ q:Nat):Int):=by
 subst hz;exact P8 h
theorem SR {z:Int} (i:Nat) (hz:z=(i:Int)) (h:i≤62):IntKind.i64.wrap (1 * 2 ^ (min z.toNat 64))=((2 ^ i:Nat):Int):=by
 subst hz;exact Xi h
theorem oX {k:IntKind} {L T:Z} {i v:Nat} (h:L=T) (hv:(T.getD i 0).toNat=v) (hk:B4 k=true):k.wrap ((L.getD i 0).toNat:Int)=((v:Nat):Int):=by
 rw [h,hv];have:=Zk (T.getD i 0);exact vL hk O O
def qJ (m:Nat):Nat→Nat
 | 0=>pd m
 | j+1=>qJ m j % 256 * 256
def wI (m:Nat):Nat→Z
 | 0=>[UInt8.ofNat ((8-bl m % 8) % 8)]
 | j+1=>wI m j++[UInt8.ofNat (qJ m j / 256)]
theorem KO {m:Nat} (h:m<65536) (j:Nat):qJ m j<65536:=by
 cases j with
 | zero=>exact pb h
 | succ j=>show qJ m j % 256 * 256<65536;omega
theorem Mp (m j:Nat):(wI m j).length=1+j:=by
 induction j with
 | zero=>rfl
 | succ j ih=>show (wI m j++_).length=_;rw [YI,ih,ZC];omega
theorem Mq {m:Nat} (h:m<65536):wI m ((bl m+7) / 8)=dD m:=by
 have h3:=(D5 h).2
 have r1:=eo (i:=m / 256) O
 have r2:=eo (i:=m % 256) O
 have t0:qJ m 0 / 256=da (m % 256):=by show pd m / 256=_;unfold pd;omega
 have t1:qJ m 1 / 256=da (m / 256):=by show pd m % 256 * 256 / 256=_;unfold pd;omega
 unfold dD
 by_cases h0:bl m=0
 ·rw [YF h0,h0];simp only [Nat.reduceAdd,Nat.reduceDiv,wI,h0]
 ·rw [YE h0]
  by_cases h8:bl m≤8
  ·rw [YF h8,show (bl m+7) / 8=1 by omega];simp only [wI,t0];rfl
  ·rw [YE h8,show (bl m+7) / 8=2 by omega];simp only [wI,t0,t1];rfl
def fL (b:Z):Nat:=(b.getD 1 0).toNat % 256 * 256+(if b.length=3 then (b.getD 2 0).toNat else 0)
theorem nA {b:Z} (h:b.length=2∨b.length=3):fL b<65536∧pd (fL b)=dc b:=by
 have h1:(b.getD 1 0).toNat<256:=Zk _
 have h2:(b.getD 2 0).toNat<256:=Zk _
 unfold fL pd dc
 generalize (b.getD 1 0).toNat=p at *
 generalize (b.getD 2 0).toNat=q at *
 rcases h with h|h
 ·rw [jK,jK,show (p % 256 * 256+0) / 256=p by omega,show (p % 256 * 256+0) % 256=0 by omega]
  exact ⟨by omega,rfl⟩
 ·rw [YF h,YF h,show (p % 256 * 256+q) / 256=p by omega,show (p % 256 * 256+q) % 256=q by omega]
  exact ⟨by omega,rfl⟩
section
variable {gs:List Nat} [gQ gs]


theorem pc {gs:List Nat} (x:Nat) (hx:x<65536):cc gs Tryz.prog 158 [.c (.int .u16 (x:Nat))] (.c (.int .u16 (pd x:Nat))):=by
 have h1:=eo (i:=x / 256) O
 have h2:=eo (i:=x % 256) O
 refine aj 13 Tryz.func158 fun al w0 F0 St0=>?_;refine U 7516 ?_;refine dY (.rd 0 (.rd 1 (.rd 2 (.rd 3 (.rd 4 (.rd 5 (.rd 6 (.rd 7 (.rd 8 (.rd 9 (.rd 10 .done))))))))))) ?_;refine U 70 ?_;refine aM (jI rfl rfl rfl (by (omega)) (((x / 256:Nat):Int)) (F7 _ rfl)) ?_;refine aM (lq rfl rfl rfl Tryz.underlying9 (show _=((x / 256:Nat):Int) by omega) (by exact ahx (show x / 256<256 by omega) (by kernel_rfl))) ?_;refine aM (cG rfl rfl Tryz.underlying5 Tryz.underlying220 (((da (x / 256):Nat):Int)) (oX (T:=Gg) (by kernel_rfl) (yQ O) rfl)) ?_;refine U 70 ?_;refine aM (mI rfl rfl rfl (((x % 256:Nat):Int)) (Vt hx)) ?_;refine aM (lq rfl rfl rfl Tryz.underlying9 (show _=((x % 256:Nat):Int) by omega) (by exact ahx (show x % 256<256 by omega) (by kernel_rfl))) ?_;refine aM (cG rfl rfl Tryz.underlying5 Tryz.underlying220 (((da (x % 256):Nat):Int)) (oX (T:=Gg) (by kernel_rfl) (yQ O) rfl)) ?_;refine aM (ic rfl rfl rfl (by (omega)) (((da (x % 256) % 256 * 256:Nat):Int)) (va _ rfl)) ?_;refine aM (wB rfl rfl rfl (((da (x / 256)+256 * (da (x % 256) % 256):Nat):Int)) (SY h1 O)) ?_;refine U 8000700088070 ?_;refine cI ?_
 unfold pd;omega
theorem M4 {gs:List Nat} (m:Nat) (hm:m<65536):cc gs Tryz.prog 200 [.c (.int .u64 (m:Nat))] (.c (.int .i64 (bl m:Nat))):=by
 refine aj 25 Tryz.func200 fun al w0 F0 St0=>?_;refine U 52167516 ?_;refine ap (fun h338=>?_) fun h338=>?_
 ·exfalso;omega
 refine U 52167810 ?_;refine ap (fun h342=>?_) fun h342=>?_
 ·exfalso;omega
 refine U 52167810 ?_;refine ap (fun h346=>?_) fun h346=>?_
 rotate_left
 ·refine U 810 ?_
  obtain ⟨q,hq,hq2⟩:∃ q,q=(if 256≤m then m / 256 else m)∧q<256:=⟨_,rfl,by split <;> omega⟩
  refine jE (aS 0 (.c (.int .u64 (q:Nat))) (cI (by rw [hq];rw [jK]))) ?_
  have hl:=(qc hq2).2.1
  refine U 116 ?_;refine jq (cG rfl rfl Tryz.underlying259 Tryz.underlying5 (((q:Nat):Int)) ((by rw [IntKind.wrap_u8];omega))) ?_;refine jq (lq rfl rfl rfl Tryz.underlying9 (show _=((q:Nat):Int) by omega) (by exact ahx hq2 (by kernel_rfl))) ?_;refine jq (cG rfl rfl Tryz.underlying5 Tryz.underlying3 (((ip q:Nat):Int)) (oX (T:=GF) (by kernel_rfl) (zC hq2) rfl)) ?_;refine U 80007000519 ?_;refine cI ?_
  unfold bl
  (rw [jK] at hq ⊢;subst hq;omega)
 refine U 16 ?_;refine jq (jI rfl rfl rfl (by (omega)) (((m / 256:Nat):Int)) (P9 _ rfl)) ?_;refine U 8519120051 ?_
 obtain ⟨q,hq,hq2⟩:∃ q,q=(if 256≤m then m / 256 else m)∧q<256:=⟨_,rfl,by split <;> omega⟩
 refine jE (aS 0 (.c (.int .u64 (q:Nat))) (cI (by rw [hq];rw [jP]))) ?_
 have hl:=(qc hq2).2.1
 refine U 116 ?_;refine jq (cG rfl rfl Tryz.underlying259 Tryz.underlying5 (((q:Nat):Int)) ((by rw [IntKind.wrap_u8];omega))) ?_;refine jq (lq rfl rfl rfl Tryz.underlying9 (show _=((q:Nat):Int) by omega) (by exact ahx hq2 (by kernel_rfl))) ?_;refine jq (cG rfl rfl Tryz.underlying5 Tryz.underlying3 (((ip q:Nat):Int)) (oX (T:=GF) (by kernel_rfl) (zC hq2) rfl)) ?_;refine U 80007000519 ?_;refine cI ?_
 unfold bl
 (rw [jP] at hq ⊢;subst hq;omega)
theorem Sq {gs:List Nat} (m:Nat) (hm:m<65536):cc gs Tryz.prog 159 [.c (.int .u64 (m:Nat))] (.c (.int .i64 (bl m:Nat))):=by
 refine aj 8 Tryz.func159 fun al w0 F0 St0=>?_;refine U 168103007516 ?_
 refine au (ar (M4 m hm) ?_)
 refine U 51 ?_
 refine jR (eA (hv:=I))
theorem MH {gs:List Nat} (c:UInt8):cc gs Tryz.prog 173 [.c (.int .u8 (c.toNat:Nat))] (.c (.int .i64 (mY c.toNat:Nat))):=by
 have hc:c.toNat<256:=c.toNat_lt
 refine aj 6 Tryz.func173 fun al w0 F0 St0=>?_;refine U 16516 ?_;refine jq (lq rfl rfl rfl Tryz.underlying9 (show _=((c.toNat:Nat):Int) by omega) (by exact ahx hc (by kernel_rfl))) ?_;refine jq (cG rfl rfl Tryz.underlying5 Tryz.underlying3 (((mY c.toNat:Nat):Int)) (oX (T:=MI) (by kernel_rfl) (IZ hc) rfl)) ?_;refine U 51 ?_
 refine jR (eA (hv:=I))

theorem JO (z:Int) (hz:z<0∨32767<z):cc gs Tryz.prog 101 [.c (.int .i64 z)] (.tup 2 (fl [aV [],.err 1])):=by
 refine aj 41 Tryz.func101 fun al w0 F0 St0=>?_;refine U 121675116 ?_;refine aK 10 (fun g76=>?_) fun g76=>?_
 ·refine U 79000510000000044 ?_;refine dY (.rd 0 (.rd 1 (.rd 2 .done))) ?_;refine aM (cK 0) ?_;refine U 8807070 ?_
  refine jR (kq (eA (hv:=cT cN I)))
 refine U 550021 ?_;refine ap (fun h76=>?_) fun h76=>?_
 rotate_left
 ·exfalso;simp at h76;omega
 refine gY ?_;refine dY (.rd 0 (.rd 1 (.rd 2 .done))) ?_;refine aM (cK 0) ?_;refine U 8807070 ?_
 refine jR (kq (eA (hv:=cT cN I)))
theorem Oe {gs:List Nat} (m:Nat) (hm:m<32768):cc gs Tryz.prog 101 [.c (.int .i64 (m:Nat))] (.tup 2 (fl [aV (dD m),.err 0])):=by
 have hb:=(D5 (m:=m) O).2
 refine aj 41 Tryz.func101 fun al w0 F0 St0=>?_;refine U 121675116 ?_;refine aK 10 (fun g76=>?_) fun g76=>?_
 ·exfalso;omega
 refine U 550021 ?_;refine ap (fun h76=>?_) fun h76=>?_
 ·exfalso;omega
 refine U 16810 ?_;refine jq (vi .i64 .u16) ?_
 refine au (ar (pc m O) ?_)
 refine U 1651 ?_;refine jq (vi .i64 .u64) ?_
 refine au (ar (Sq m O) ?_)
 refine U 8000001000000910000001651 ?_
 refine au (aY 1 1 er fun p1=>?_)
 refine U 20516751 ?_;refine jE (eE 0 rfl (YG _) (fun _=>rfl) (Dv (l2:=[UInt8.ofNat ((8-bl m % 8) % 8)]) (.cons (cI (by rw [fU O];omega)) .nil))) ?_;refine ax (α:=Nat×Option Nat) [4,6,7,27,28,29,30,31,32,33,34,35,36,37,38,39] (fun (j,g)=>[(4,.c (.int .u16 (qJ m j:Nat))),(6,.os 0 g 0 (wI m j).length 1),(7,.c (.int .i64 ((8 * j:Nat):Int)))]) (fun (j,g)=>[(g,.blk (wI m j).length (bc (wI m j)))]) (fun j=>j.1≤(bl m+7) / 8) (fun j=>3-j.1) ((0,p1)) ?_ (fun _=>rfl) ?_ ?_ ?_
 ·exact YT _
 ·exact .cons I (.cons I (.cons I .nil))
 ·exact .same .nil
 ·rintro ⟨j,g'⟩ (hj:j≤(bl m+7) / 8)
  have ht:=KO (m:=m) O j
  have hol:=Mp m j
  refine U 521167 ?_;refine ap (fun h83=>?_) fun h83=>?_
  rotate_left
  ·refine U 5111684000200020006000 ?_;refine jE (freeze 0 rfl) ?_;refine jE (ia 2 (wI m j) rfl rfl (by rfl) rfl) ?_;refine U 80007000 ?_
   have e:j=(bl m+7) / 8:=by omega
   refine cT (aa.bs ?_) aa.nil
   rw [e];exact Mq O
  refine U 116207810 ?_;refine jq (jI rfl rfl rfl (by (omega)) (((qJ m j / 256:Nat):Int)) (F7 _ rfl)) ?_;refine jq (vi .u16 .u8) ?_
  refine au (aY 1 1 er fun p2=>?_)
  refine aq (aR (l2:=[UInt8.ofNat (qJ m j / 256)]) rfl rfl rfl (YG _) (fun _ _=>I) (aW rfl (.inl rfl) jD) rfl (ck (.cons (cI ((by rw [fU O]))) .nil)) Tryz.underlying23 fY ix er mx rfl (by (simp;omega)) (dz rfl rfl) rfl rfl (fun p3=>?_))
  refine U 120051 ?_;refine jq (ic rfl rfl rfl (by (omega)) (((qJ m j % 256 * 256:Nat):Int)) (va _ rfl)) ?_;refine U 85191200840051 ?_
  refine aw ((j+1,p3)) ?_ ?_ (h5:=?_) (h7:=?_)
  ·show j+1≤(bl m+7) / 8;omega
  ·show 3-(j+1)<3-j;omega
  ·exact .cons I (.cons I (.cons (cI O) .nil))
  ·exact .same .nil
theorem KP (b:Z):cc gs Tryz.prog 125 [aV b] (.tup 2 (fl [.c (.int .i64 (aZ b).1),.err (aZ b).2])):=by
 have h8:(b.getD 0 0).toNat<256:=Zk _
 have h81:(b.getD 1 0).toNat<256:=Zk _
 have h82:(b.getD 2 0).toNat<256:=Zk _
 refine aj 72 Tryz.func125 fun al w0 F0 St0=>?_;refine U 5231675116 ?_;refine ap (fun h92=>?_) fun h92=>?_
 ·refine gY ?_;refine dY (.rd 0 (.rd 1 (.rd 2 .done))) ?_;refine aM (cK 1) ?_;refine U 8000300070008807070 ?_
  have e0:b.length=0:=by omega
  unfold aZ;rw [YF e0]
  exact I
 refine U 7810 ?_;refine dY (.rd 0 (.rd 1 (.rd 2 (.rd 3 (.rd 4 (.rd 5 (.rd 6 (.rd 7 .done)))))))) ?_;refine U 70 ?_;refine aM (dU (i:=0)) ?_;refine aM kC ?_;refine aM (ru .i64) ?_;refine U 70 ?_;refine aM (qB (hz1:=(show (1:Int)=((1:Nat):Int) from rfl))) ?_;refine U 2078807070 ?_
 obtain ⟨x,hx⟩:∃ x,x=(b.getD 0 0).toNat:=⟨_,rfl⟩
 have e0:b.length≠0:=by omega
 refine jE (aS 4 (.c (.int .i64 (x:Nat))) (cI (by rw [hx]))) ?_
 have e1:∀ j,(b.drop 1).getD j 0=b.getD (j+1) 0:=fun j=>by simp [List.getD]
 have e2:(b.drop 1).length=b.length-1:=by simp
 refine U 1216 ?_;refine aK 21 (fun g97=>?_) fun g97=>?_
 ·refine U 790005110000000044444441100000000444 ?_;refine dY (.rd 0 (.rd 1 (.rd 2 .done))) ?_;refine U 800030005000700088070704000000 ?_
  have hM:aZ b=(0,4):=by
   unfold aZ;rw [YE e0,jP]
  rw [hM];exact I
 refine U 1500231 ?_;refine aK 26 (fun g97_2=>?_) fun g97_2=>?_
 ·refine U 79000511000000004444444 ?_;refine dY (.rd 0 (.rd 1 (.rd 2 .done))) ?_;refine U 800030005000700088070704000000 ?_
  have hM:aZ b=(0,4):=by
   unfold aZ;rw [YE e0,jP]
  rw [hM];exact I
 refine U 1231 ?_;refine aK 30 (fun g97_3=>?_) fun g97_3=>?_
 rotate_left
 ·refine U 5123163005150050044 ?_;refine ap (fun h99=>?_) fun h99=>?_
  ·refine U 80003000500070005116 ?_
   have hM:aZ b=(0,0):=by
    unfold aZ;rw [YE e0,jK,jP]
   rw [hM];exact cT I aa.nil
  have e3:(b.drop 1).getD (b.length-2) 0=b.getD (b.length-1) 0:=by rw [e1];congr 1;omega
  refine U 93116 ?_;refine jq (dU (i:=(b.length-2)) (hz:=by omega)) ?_;refine U 60 ?_
  refine au (ar (MH ((b.drop 1).getD (b.length-2) 0)) ?_)
  refine U 5121 ?_;refine ap (fun h101=>?_) fun h101=>?_
  ·refine gY ?_;refine dY (.rd 0 (.rd 1 (.rd 2 .done))) ?_;refine U 800030005000700088070704000000 ?_
   rw [e3] at h101
   have hM:aZ b=(0,4):=by
    unfold aZ;rw [YE e0,jK,jK,jP]
   rw [hM];exact I
  refine U 840010 ?_
  rw [e3] at h101
  refine U 60200000016 ?_;refine jq (ru .u16) ?_;refine jq (ic rfl rfl rfl (by (omega)) ((((b.getD 1 0).toNat % 256 * 256:Nat):Int)) ((by rw [e1];exact va _ rfl))) ?_;refine U 52316751 ?_;refine ap (fun h105=>?_) fun h105=>?_
  rotate_left
  ·refine U 810 ?_
   have hT:=nA (b:=b) O
   refine jE (aS 6 (.c (.int .u16 (fL b:Nat))) (cI (by unfold fL;(rw [jK];omega)))) ?_;refine U 16 ?_
   refine au (ar (pc (fL b) hT.1) ?_)
   refine jq (cG rfl rfl Tryz.underlying220 Tryz.underlying3 (((dc b:Nat):Int)) ((by rw [hT.2];exact cC (k:=.i64) (by show _∧_;have:=pb hT.1;rw [hT.2] at this;omega)))) ?_;refine U 751 ?_
   have hM:aZ b=if 32768≤dc b then (0,1) else (dc b,0):=by
    unfold aZ
    rw [YE e0,jK,jK,jK]
    rfl
   refine U 5216 ?_;refine ap (fun h109=>?_) fun h109=>?_
   ·refine gY ?_;refine dY (.rd 0 (.rd 1 (.rd 2 .done))) ?_;refine aM (cK 0) ?_;refine U 8000300070008807070 ?_
    rw [hM,jP];exact I
   refine U 8000700051116810 ?_
   have e1:(aZ b).1=dc b:=by rw [hM,jK]
   have e2:(aZ b).2=0:=by rw [hM,jK]
   exact cT (cI (by rw [e1])) (aa.nilE e2)
  refine U 11200 ?_;refine jq (dU (i:=1)) ?_;refine U 60 ?_;refine jq (ru .u16) ?_;refine jq (wB rfl rfl rfl ((((b.getD 2 0).toNat+256 * ((b.getD 1 0).toNat % 256):Nat):Int)) ((by rw [e1];exact SX h82 O))) ?_;refine U 851 ?_
  have hT:=nA (b:=b) O
  refine jE (aS 6 (.c (.int .u16 (fL b:Nat))) (cI (by unfold fL;(rw [jP];omega)))) ?_;refine U 16 ?_
  refine au (ar (pc (fL b) hT.1) ?_)
  refine jq (cG rfl rfl Tryz.underlying220 Tryz.underlying3 (((dc b:Nat):Int)) ((by rw [hT.2];exact cC (k:=.i64) (by show _∧_;have:=pb hT.1;rw [hT.2] at this;omega)))) ?_;refine U 751 ?_
  have hM:aZ b=if 32768≤dc b then (0,1) else (dc b,0):=by
   unfold aZ
   rw [YE e0,jK,jK,jK]
   rfl
  refine U 5216 ?_;refine ap (fun h109=>?_) fun h109=>?_
  ·refine gY ?_;refine dY (.rd 0 (.rd 1 (.rd 2 .done))) ?_;refine aM (cK 0) ?_;refine U 8000300070008807070 ?_
   rw [hM,jP];exact I
  refine U 8000700051116810 ?_
  have e1:(aZ b).1=dc b:=by rw [hM,jK]
  have e2:(aZ b).2=0:=by rw [hM,jK]
  exact cT (cI (by rw [e1])) (aa.nilE e2)
 refine U 5150010000000021 ?_;refine ap (fun h97=>?_) fun h97=>?_
 ·refine gY ?_;refine dY (.rd 0 (.rd 1 (.rd 2 .done))) ?_;refine U 800030005000700088070704000000 ?_
  have hM:aZ b=(0,4):=by
   unfold aZ;rw [YE e0,jP]
  rw [hM];exact I
 refine U 512316 ?_;refine ap (fun h99=>?_) fun h99=>?_
 ·refine U 80003000500070005116 ?_
  have hM:aZ b=(0,0):=by
   unfold aZ;rw [YE e0,jK,jP]
  rw [hM];exact cT I aa.nil
 have e3:(b.drop 1).getD (b.length-2) 0=b.getD (b.length-1) 0:=by rw [e1];congr 1;omega
 refine U 93116 ?_;refine jq (dU (i:=(b.length-2)) (hz:=by omega)) ?_;refine U 60 ?_
 refine au (ar (MH ((b.drop 1).getD (b.length-2) 0)) ?_)
 refine U 5121 ?_;refine ap (fun h101=>?_) fun h101=>?_
 ·refine gY ?_;refine dY (.rd 0 (.rd 1 (.rd 2 .done))) ?_;refine U 800030005000700088070704000000 ?_
  rw [e3] at h101
  have hM:aZ b=(0,4):=by
   unfold aZ;rw [YE e0,jK,jK,jP]
  rw [hM];exact I
 refine U 840010 ?_
 rw [e3] at h101
 refine U 60200000016 ?_;refine jq (ru .u16) ?_;refine jq (ic rfl rfl rfl (by (omega)) ((((b.getD 1 0).toNat % 256 * 256:Nat):Int)) ((by rw [e1];exact va _ rfl))) ?_;refine U 52316751 ?_;refine ap (fun h105=>?_) fun h105=>?_
 rotate_left
 ·refine U 810 ?_
  have hT:=nA (b:=b) O
  refine jE (aS 6 (.c (.int .u16 (fL b:Nat))) (cI (by unfold fL;(rw [jP];omega)))) ?_;refine U 16 ?_
  refine au (ar (pc (fL b) hT.1) ?_)
  refine jq (cG rfl rfl Tryz.underlying220 Tryz.underlying3 (((dc b:Nat):Int)) ((by rw [hT.2];exact cC (k:=.i64) (by show _∧_;have:=pb hT.1;rw [hT.2] at this;omega)))) ?_;refine U 751 ?_
  have hM:aZ b=if 32768≤dc b then (0,1) else (dc b,0):=by
   unfold aZ
   rw [YE e0,jK,jK,jK]
   rfl
  refine U 5216 ?_;refine ap (fun h109=>?_) fun h109=>?_
  ·refine gY ?_;refine dY (.rd 0 (.rd 1 (.rd 2 .done))) ?_;refine aM (cK 0) ?_;refine U 8000300070008807070 ?_
   rw [hM,jP];exact I
  refine U 8000700051116810 ?_
  have e1:(aZ b).1=dc b:=by rw [hM,jK]
  have e2:(aZ b).2=0:=by rw [hM,jK]
  exact cT (cI (by rw [e1])) (aa.nilE e2)
 refine U 11200 ?_;refine jq (dU (i:=1)) ?_;refine U 60 ?_;refine jq (ru .u16) ?_;refine jq (wB rfl rfl rfl ((((b.getD 2 0).toNat+256 * ((b.getD 1 0).toNat % 256):Nat):Int)) ((by rw [e1];exact SX h82 O))) ?_;refine U 851 ?_
 have hT:=nA (b:=b) O
 refine jE (aS 6 (.c (.int .u16 (fL b:Nat))) (cI (by unfold fL;(rw [jP];omega)))) ?_;refine U 16 ?_
 refine au (ar (pc (fL b) hT.1) ?_)
 refine jq (cG rfl rfl Tryz.underlying220 Tryz.underlying3 (((dc b:Nat):Int)) ((by rw [hT.2];exact cC (k:=.i64) (by show _∧_;have:=pb hT.1;rw [hT.2] at this;omega)))) ?_;refine U 751 ?_
 have hM:aZ b=if 32768≤dc b then (0,1) else (dc b,0):=by
  unfold aZ
  rw [YE e0,jK,jK,jK]
  rfl
 refine U 5216 ?_;refine ap (fun h109=>?_) fun h109=>?_
 ·refine gY ?_;refine dY (.rd 0 (.rd 1 (.rd 2 .done))) ?_;refine aM (cK 0) ?_;refine U 8000300070008807070 ?_
  rw [hM,jP];exact I
 refine U 8000700051116810 ?_
 have e1:(aZ b).1=dc b:=by rw [hM,jK]
 have e2:(aZ b).2=0:=by rw [hM,jK]
 exact cT (cI (by rw [e1])) (aa.nilE e2)

theorem LG {gs:List Nat} (b:Z) (hbl:b.length≤1000000):cc gs Tryz.prog 188 [aV b] (.tup 2 (fl [.c (.int .i64 (aZ b).1),.c (.int .i64 (aZ b).2)])):=by
 have h8:(b.getD 0 0).toNat<256:=Zk _
 refine aj 74 Tryz.func188 fun al w0 F0 St0=>?_;refine U 5231675116 ?_;refine ap (fun h87=>?_) fun h87=>?_
 ·refine U 8000300070005116 ?_
  have e0:b.length=0:=by omega
  unfold aZ;rw [YF e0]
  exact I
 refine U 810 ?_
 obtain ⟨x,hx⟩:∃ x,x=(b.getD 0 0).toNat:=⟨_,rfl⟩
 have e0:b.length≠0:=by omega
 refine U 1260200000016751970000000602000000199316 ?_;refine aK 23 (fun g91=>?_) fun g91=>?_
 ·refine U 800030007000511690005100000000441100000000444 ?_
  have hM:aZ b=(0,4):=by
   unfold aZ;rw [YE e0,jP]
  rw [hM];exact I
 refine U 1500231 ?_;refine aK 28 (fun g91_2=>?_) fun g91_2=>?_
 ·refine U 80003000700051169000510000000044 ?_
  have hM:aZ b=(0,4):=by
   unfold aZ;rw [YE e0,jP]
  rw [hM];exact I
 refine U 550021 ?_;refine ap (fun h91=>?_) fun h91=>?_
 ·refine U 8000300070005116 ?_
  have hM:aZ b=(0,4):=by
   unfold aZ;rw [YE e0,jP]
  rw [hM];exact I
 refine U 810 ?_
 obtain ⟨N,hN⟩:∃ N,N=(b.length-1) * 8-x:=⟨_,rfl⟩
 have hN2:x≤(b.length-1) * 8∧b.length≤3∧x<8:=by omega
 refine jE (aS 4 (.c (.int .i64 (N:Nat))) (cI O)) ?_
 have hM:=Je e0 hN2.2.1 (by rw [← hx];exact hN2.2.2) (by rw [← hx];exact hN2.1)
 rw [← hx,← hN] at hM
 refine U 205167516 ?_;refine ax (α:=Nat) [2,3,5,6,32,33,34,35,36,37,38,39,40,41,42,43,44,45,46,47,48,49,50,51,52,53,54,55,56,57,58,59,60] (fun i=>[(5,.c (.int .i64 (dc b % 2 ^ i:Nat))),(6,.c (.int .i64 (i:Nat)))]) (fun _=>[]) (fun i=>i≤(b.length-1) * 8∧dc b % 2 ^ i<2 ^ N) (fun i=>(b.length-1) * 8-i) (0) ?_ (fun _=>rfl) ?_ ?_ ?_
 ·exact ⟨YT _,by rw [Nat.pow_zero,bpx];exact aUx _⟩
 ·exact .cons (cI (by rw [Nat.pow_zero,bpx];rfl)) (.cons I .nil)
 ·(repeat (exact aP.nil))
 ·rintro i ⟨hi,hR⟩
  obtain ⟨q,hq⟩:∃ q,q=dc b / 2 ^ i:=⟨_,rfl⟩
  have e:=MO (dc b) i
  rw [← hq] at e
  refine U 529931167 ?_;refine ap (fun h95=>?_) fun h95=>?_
  ·refine U 207810 ?_
   have hbit:=Kg (b:=b) (i:=i) hN2.2.1 O
   obtain ⟨p,hp⟩:∃ p,p=(b.getD (1+i / 8) 0).toNat / 2 ^ (7-i % 8):=⟨_,rfl⟩
   rw [← hp,← hq] at hbit
   have hi16:i<16:=by omega
   have hp16:=ZA (n:=2) jD (show i≤16 by omega)
   have hml:=Z0 (dc b) (aUx i)
   rw [show 2 ^ 16=65536 from rfl] at hp16
   refine U 9600000116 ?_;refine jq (dU (i:=(1+i / 8)) (hz:=by omega)) ?_;refine U 91000000160 ?_;refine jq (vi .i64 .u64) ?_;refine jq (jI rfl rfl rfl (by (omega)) (((p:Nat):Int)) ((by rw [hp];exact Ln (7-i % 8) O (by show _≤8;omega)))) ?_;refine U 521000000 ?_;refine ap (fun h96=>?_) fun h96=>?_
   rotate_left
   ·refine U 85191200840010 ?_
    refine aw (i+1) ?_ ?_ (h5:=?_)
    ·exact ⟨by omega,by
      by_cases hb:q % 2=1
      ·rw [hb,b7x] at e
       have h1:=Z0 (dc b) (aUx (i+1))
       have h2:=ZA (n:=2) jD (show i+1≤N by omega)
       omega
      ·rw [show q % 2=0 by omega,ZQ] at e;omega⟩
    ·omega
    ·exact .cons (cI (by (rw [show q % 2=0 by omega,ZQ] at e;omega))) (.cons (cI O) .nil)
   refine gY ?_
   have hb1:q % 2=1:=by omega
   refine U 52116 ?_;refine ap (fun h97=>?_) fun h97=>?_
   ·refine U 800030005000300030005000300070005116 ?_
    have hge:2 ^ N≤dc b:=by
     have h1:=ZA (n:=2) jD (show N≤i by omega)
     have h2:1≤dc b / 2 ^ i:=by rw [← hq];omega
     have h3:=(Nat.le_div_iff_mul_le (aUx i)).1 h2
     omega
    rw [hM,jK,YF (.inl hge)];exact I
   refine U 11200810 ?_;refine jq (vi .i64 .u64) ?_;refine jq (ic rfl rfl rfl (by (omega)) (((2 ^ i:Nat):Int)) (SR i rfl O)) ?_;refine U 851912008400519 ?_
   refine aw (i+1) ?_ ?_ (h5:=?_)
   ·exact ⟨by omega,by
     by_cases hb:q % 2=1
     ·rw [hb,b7x] at e
      have h1:=Z0 (dc b) (aUx (i+1))
      have h2:=ZA (n:=2) jD (show i+1≤N by omega)
      omega
     ·rw [show q % 2=0 by omega,ZQ] at e;omega⟩
   ·omega
   ·exact .cons (cI (by (rw [show q % 2=1 by omega,b7x] at e;omega))) (.cons (cI O) .nil)
  refine U 784000200020006000 ?_
  have hie:i=(b.length-1) * 8:=by omega
  have hRe:b.length≠1→dc b % 2 ^ i=dc b:=fun h=>by
   rw [hie];exact Z8 ((O3 hN2.2.1).resolve_right O)
  have hR1:b.length=1→dc b % 2 ^ i=0:=fun h=>by
   rw [hie,h];exact bpx _
  obtain ⟨R,hRd⟩:∃ R,R=dc b % 2 ^ i:=⟨_,rfl⟩
  rw [← hRd] at hRe hR1 hR
  refine jE (aS 5 (.c (.int .i64 (R:Nat))) (cI (by rw [hRd]))) ?_
  have hN0:b.length=1→N=0:=fun h=>by omega
  have hN1:b.length≠1→1≤N:=fun h=>by omega
  have hN16:N≤16:=by omega
  clear hRd
  refine U 1216 ?_;refine aK 63 (fun g103=>?_) fun g103=>?_
  rotate_left
  ·refine U 521678103005500444444 ?_;refine ap (fun h106=>?_) fun h106=>?_
   ·refine U 8000300070005116 ?_
    have e1:aZ b=(0,1):=by rw [hM,jK,jK,jP]
    exact cT (cI (by rw [e1];rfl)) (cI (by rw [e1];rfl))
   refine U 8000700051116810 ?_
   have e1:aZ b=(R,0):=by
    rw [hM]
    by_cases h1:b.length=1
    ·rw [YF h1,show R=0 by omega]
    ·rw [YE h1,jK,jK,hRe h1]
   exact cT (cI (by rw [e1])) (cI (by rw [e1];rfl))
  refine U 911 ?_;refine jq (vi .i64 .u64) ?_;refine jq (ic rfl rfl rfl (by (omega)) (((2 ^ (N-1):Nat):Int)) (SR (N-1) O O)) ?_;refine U 51000000002 ?_;refine ap (fun h103=>?_) fun h103=>?_
  ·refine U 8000300070005116 ?_
   have e1:aZ b=(0,4):=by rw [hM,jK,YF (.inr O)]
   exact cT (cI (by rw [e1];rfl)) (cI (by rw [e1];rfl))
  refine U 52167810 ?_;refine ap (fun h106=>?_) fun h106=>?_
  ·refine U 8000300070005116 ?_
   have e1:aZ b=(0,1):=by rw [hM,jK,jK,jP]
   exact cT (cI (by rw [e1];rfl)) (cI (by rw [e1];rfl))
  refine U 8000700051116810 ?_
  have e1:aZ b=(R,0):=by
   rw [hM]
   by_cases h1:b.length=1
   ·rw [YF h1,show R=0 by omega]
   ·rw [YE h1,jK,jK,hRe h1]
  exact cT (cI (by rw [e1])) (cI (by rw [e1];rfl))
end
section
variable {gs:List Nat} [dK gs]
set_option linter.unusedVariables false
end
def nS (c:UInt8):Bool:=(decide (97≤c.toNat) && decide (c.toNat≤122)) || (decide (48≤c.toNat) && decide (c.toNat≤57)) || decide (c.toNat=45)
def kA (l:Z):Bool:=decide (l≠[]) && decide (l.length≤24) && decide (l.getD 0 0≠45) && decide (l.getD (l.length-1) 0≠45) && l.all nS
theorem Da {l:Z} (h:kA l=true):(58:UInt8) ∉ l∧(47:UInt8) ∉ l∧l≠[]:=by
 simp only [kA,YK,YP,Y8] at h
 obtain ⟨⟨⟨⟨h1,_⟩,_⟩,_⟩,h2⟩:=h
 exact ⟨fun hm=>by have:=h2 _ hm;revert this;decide,fun hm=>by have:=h2 _ hm;revert this;decide,h1⟩
abbrev S3:=Int×Z×Z
def ox:YD:=[[110,111,100,101],[119,111,114,107,108,111,97,100],[111,112,101,114,97,116,111,114],[98,111,111,116],[99,97]]
def fI (k:Int):Z:=if k<1 then [] else ox.getD (k-1).toNat []
def bW (s:S3):Bool:=decide (1≤s.1) && decide (s.1≤5) && kA s.2.2 && (if s.1=2 then kA s.2.1 else decide (s.2.1=[]))
theorem ln (s:S3):bW s=true↔1≤s.1∧s.1≤5∧kA s.2.2=true∧(s.1=2→kA s.2.1=true)∧(s.1≠2→s.2.1=[]):=by
 simp only [bW,YK,YP]
 by_cases h:s.1=2
 ·rw [YF h]
  exact ⟨fun ⟨⟨⟨a,b⟩,c⟩,d⟩=>⟨a,b,c,fun _=>d,fun e=>absurd h e⟩,fun ⟨a,b,c,d,_⟩=>⟨⟨⟨a,b⟩,c⟩,d h⟩⟩
 ·rw [YE h,YP]
  exact ⟨fun ⟨⟨⟨a,b⟩,c⟩,d⟩=>⟨a,b,c,fun e=>absurd e h,fun _=>d⟩,fun ⟨a,b,c,_,d⟩=>⟨⟨⟨a,b⟩,c⟩,d h⟩⟩
theorem kinds {k:Int} (h1:1≤k) (h5:k≤5):k=1∨k=2∨k=3∨k=4∨k=5:=by omega
theorem yw (k:Int):fI k=[]↔¬ (1≤k∧k≤5):=by
 constructor
 ·intro h hk
  rcases kinds hk.1 hk.2 with rfl|rfl|rfl|rfl|rfl <;> exact absurd h jD
 ·intro h
  unfold fI
  by_cases h1:k<1
  ·rw [YF h1]
  ·rw [YE h1,YH,Y6 (by show 5≤_;omega)];rfl
theorem Ky {k:Int} (h1:1≤k) (h5:k≤5):((ox.idxOf (fI k):Nat):Int)+1=k∧fI k ∈ ox:=by
 rcases kinds h1 h5 with rfl|rfl|rfl|rfl|rfl <;> decide
def tH (w:Z):Int:=if w ∈ ox then (ox.idxOf w:Nat)+1 else 0
theorem RL (w:Z):0≤tH w∧tH w≤5:=by
 unfold tH
 split
 ·rename_i h
  have:=List.idxOf_lt_length_iff.2 h
  have e:ox.length=5:=rfl
  omega
 ·omega
def dw:S3:=(0,[],[])
def Ut:Z:=[49,46,51,46,57,57,57,57,46,49,46]
def nO:Z:=Ut++[49]
def rm:Z:=Ut++[50]
def nN:Z:=Ut++[51]
abbrev P2:=Z×Z
def bX (s:S3):List P2:=if s.2.1=[] then [(nO,fI s.1),(nN,s.2.2)] else [(nO,fI s.1),(rm,s.2.1),(nN,s.2.2)]
def ul (s:S3) (p:P2):S3:=if p.1=nO then (tH p.2,s.2.1,s.2.2) else if p.1=rm then (s.1,p.2,s.2.2) else if p.1=nN then (s.1,s.2.1,p.2) else s
def fg (l:List P2):S3:=l.foldl ul dw
theorem Dn {s:S3} (h:bW s=true):fg (bX s)=s:=by
 obtain ⟨h1,h5,hn,h2,hs⟩:=(ln s).1 h
 obtain ⟨k,sp,nm⟩:=s
 have hk:tH (fI k)=k:=by
  have hi:=Ky h1 h5
  unfold tH;rw [YF hi.2];exact hi.1
 have ks:rm≠nO:=by decide
 have kn:nN≠nO:=by decide
 have sn:nN≠rm:=by decide
 unfold bX
 by_cases he:sp=[]
 ·subst he
  simp [fg,ul,hk,kn,sn,dw]
 ·simp [fg,ul,hk,ks,kn,sn,dw,he]
def lr (l:List P2):S3×Nat:=if bW (fg l)=true∧bX (fg l)=l then (fg l,0) else (dw,9)
theorem A7 (l:List P2) (s:S3):lr l=(s,0)↔bW s=true∧bX s=l:=by
 constructor
 ·intro h
  unfold lr at h
  split at h
  ·rename_i h1
   obtain ⟨rfl,_⟩:=Prod.mk.inj h
   exact h1
  ·simp at h
 ·rintro ⟨h,rfl⟩
  unfold lr
  rw [Dn h,YF ⟨h,rfl⟩]
theorem Uv {l:List P2} (h:∀ s,bW s=true→bX s≠l):lr l=(dw,9):=by
 unfold lr
 rw [YE (fun h1=>h _ h1.1 h1.2)]
def eW (l:List P2) (k:Int):S3:=(k,(if k=2∧1<l.length then (l.getD 1 ([],[])).2 else []),(if 0<l.length then (l.getD (l.length-1) ([],[])).2 else []))
def qg (l:List P2) (k:Int):Prop:=bW (eW l k)=true∧bX (eW l k)=l
theorem Bn {s:S3} (h:bW s=true):eW (bX s) s.1=s:=by
 obtain ⟨h1,h5,hn,h2,hs⟩:=(ln s).1 h
 obtain ⟨k,sp,nm⟩:=s
 unfold bX eW
 by_cases hk2:k=2
 ·have hl:=Da (h2 hk2)
  simp only at hl
  subst hk2
  simp [hl.2.2]
 ·have:=hs hk2
  simp only at this
  subst this
  simp [hk2]
theorem wZ {l:List P2} {k:Int} (h:qg l k):lr l=(eW l k,0):=(A7 _ _).2 h
theorem MK {l:List P2} (h:∀ k,1≤k→k≤5→¬ qg l k):lr l=(dw,9):=Uv fun s hs e=>by
 obtain ⟨h1,h5,_⟩:=(ln s).1 hs
 refine h s.1 h1 h5 ?_
 rw [← e]
 unfold qg
 rw [Bn hs]
 exact ⟨hs,rfl⟩
theorem y7 {s:S3} (h:bW s=true):bX s=if s.1=2 then [(nO,fI s.1),(rm,s.2.1),(nN,s.2.2)] else [(nO,fI s.1),(nN,s.2.2)]:=by
 obtain ⟨h1,h5,hn,h2,hs⟩:=(ln s).1 h
 unfold bX
 by_cases hk2:s.1=2
 ·rw [YF hk2,YE (Da (h2 hk2)).2.2]
 ·rw [YE hk2,YF (hs hk2)]
theorem JG {gs:List Nat} (a b:Z):cc gs Tryz.prog 165 [an a,an b] (.c (.bool (Lib.hasPrefix a b))) :=
 ot fun al w St vals hs hv hr=>by
  rw [ui hv,show vals.getD 0 undef=.string ⟨a.toArray⟩ from hr 0,show vals.getD 1 undef=.string ⟨b.toArray⟩ from hr 1]
  exact (Tryz.strings_HasPrefix _ _ w).mono (by rintro e w' ⟨rfl,rfl⟩;exact ⟨rfl,Below.refl _ _⟩)
theorem JF {gs:List Nat} (a b:Z) (h:a.length≤9223372036854775807):cc gs Tryz.prog 166 [an a,an b] (.c (.bool (Lib.hasSuffix a b))) :=
 ot fun al w St vals hs hv hr=>by
  rw [ui hv,show vals.getD 0 undef=.string ⟨a.toArray⟩ from hr 0,show vals.getD 1 undef=.string ⟨b.toArray⟩ from hr 1]
  exact (Tryz.strings_HasSuffix ⟨a.toArray⟩ _ w h).mono (by rintro e w' ⟨rfl,rfl⟩;exact ⟨rfl,Below.refl _ _⟩)
theorem vo {gs:List Nat} (a:Z) (c:UInt8):cc gs Tryz.prog 93 [an a,.c (.int .u8 (c.toNat:Nat))] (.c (.int .i64 (Lib.indexByte a c))) :=
 ot fun al w St vals hs hv hr=>by
  rw [ui hv,show vals.getD 0 undef=.string ⟨a.toArray⟩ from hr 0,show vals.getD 1 undef=.int .u8 (c.toNat:Nat) from hr 1]
  exact (Tryz.strings_IndexByte _ _ w).mono (by rintro e w' ⟨rfl,rfl⟩;exact ⟨by simp,Below.refl _ _⟩)
def UD:Z:=[97,98,99,100,101,102,103,104,105,106,107,108,109,110,111,112,113,114,115,116,117,118,119,120,121,122,48,49,50,51,52,53,54,55,56,57]
theorem Bh (c:UInt8):(decide (c.toNat=45) || !decide (Lib.indexByte UD c<0))=nS c:=by
 have key:∀ n:Fin 256,(decide ((UInt8.ofNat n.val).toNat=45) || !decide (Lib.indexByte UD (UInt8.ofNat n.val)<0))=nS (UInt8.ofNat n.val):=by decide +kernel
 have:=key ⟨c.toNat,c.toNat_lt⟩
 simpa using this
theorem QZ (l:Z):Lib.hasPrefix l [45]=decide (l≠[]∧l.getD 0 0=45):=by
 cases l with
 | nil=>decide
 | cons a l =>
  by_cases h:a=45
  ·subst h;simp [Lib.hasPrefix]
  ·have:¬ (45:UInt8)=a:=fun e=>h e.symm
   simp [Lib.hasPrefix,List.isPrefixOf,h,this]
theorem P3 (l:Z):Lib.hasSuffix l [45]=decide (l≠[]∧l.getD (l.length-1) 0=45):=by
 by_cases h0:l=[]
 ·subst h0;decide
 ·obtain ⟨q,c,rfl⟩:∃ q c,l=q++[c]:=⟨l.dropLast,l.getLast h0,(Z7 h0).symm⟩
  have e:(q++[c]).getD ((q++[c]).length-1) 0=c:=by simp [List.getD]
  rw [e]
  unfold Lib.hasSuffix
  rw [axx,List.isSuffixOf_iff_suffix]
  simp only [YP]
  constructor
  ·rintro ⟨t,ht⟩
   exact ⟨h0,(by have:=Y3 List.getLast? ht;simp at this;exact this.symm)⟩
  ·rintro ⟨_,rfl⟩;exact ⟨q,rfl⟩
theorem i0 {l:Z} {i:Nat} (hi:i<l.length) (p:UInt8→Bool):(l.take (i+1)).all p=((l.take i).all p && p (l.getD i 0)):=by
 rw [YO hi,aTx]
 simp [List.getD,hi]
theorem xI {l:Z} {i:Nat} (hi:i<l.length) (p:UInt8→Bool) (h:p (l.getD i 0)=false):l.all p=false:=by
 rw [List.all_eq_false]
 refine ⟨l[i],ZS hi,?_⟩
 have:l.getD i 0=l[i]:=by simp [List.getD,hi]
 rw [← this,h];exact Bool.noConfusion
theorem tz (l:Z):kA l=(decide (l≠[]) && decide (l.length≤24) && !Lib.hasPrefix l [45] && !Lib.hasSuffix l [45] && l.all nS):=by
 unfold kA
 rw [QZ,P3]
 by_cases h:l=[]
 ·simp [h]
 ·simp [h]
theorem nc {l:Z}:kA l=true↔1≤l.length∧l.length≤24∧(l.getD 0 0).toNat≠45∧(l.getD (l.length-1) 0).toNat≠45∧l.all nS=true:=by
 have e:∀ c:UInt8,c≠45↔c.toNat≠45:=fun c=>not_congr (by rw [← Zq];rfl)
 simp only [kA,YK,YP,e,and_assoc]
 have:l≠[]↔1≤l.length:=Zh.symm
 rw [this]
theorem wY {gs:List Nat} (l:Z):cc gs Tryz.prog 106 [an l] (.c (.bool (kA l))):=by
 refine aj 37 Tryz.func106 fun al w0 F0 St0=>?_;refine U 160000167516 ?_;refine aK 6 (fun g33=>?_) fun g33=>?_
 ·refine U 80003000700051690005100000000441100000000441100000000444 ?_;refine cB ?_
  rw [tz]
  (simp_all;done)
 refine U 15002400001 ?_;refine aK 11 (fun g33_2=>?_) fun g33_2=>?_
 ·refine U 8000300070005169000510000000044110000000044 ?_;refine cB ?_
  rw [tz]
  (simp_all;omega)
 refine U 1 ?_
 refine au (ar (JG l [45]) ?_)
 refine U 1500 ?_;refine aK 15 (fun g33_3=>?_) fun g33_3=>?_
 ·refine U 8000300070005169000510000000044 ?_;refine cB ?_
  rw [tz]
  (simp_all;done)
 refine U 1 ?_
 refine au (ar (JF l [45] O) ?_)
 refine U 5500 ?_;refine ap (fun h33=>?_) fun h33=>?_
 ·refine U 800030007000516 ?_;refine cB ?_
  rw [tz]
  (simp_all;done)
 refine U 205140000167810 ?_;refine ax (α:=Nat) [2,3,21,22,23,24,25,26,27,28,29,30,31,32,33,34,35,36] (fun i=>[(21,.c (.int .i64 (i:Nat)))]) (fun _=>[]) (fun i=>i≤l.length∧(l.take i).all nS=true) (fun i=>l.length-i) (0) ?_ (fun _=>rfl) ?_ ?_ ?_
 ·exact ⟨YT _,by simp⟩
 ·exact .cons I .nil
 ·(repeat (exact aP.nil))
 ·rintro i ⟨hi,he⟩
  refine U 7526 ?_;refine ap (fun h36=>?_) fun h36=>?_
  rotate_left
  ·refine U 8000700051684000200020006000 ?_;refine cB ?_
   have e:l.take i=l:=Y0 O
   rw [e] at he
   rw [tz,he]
   simp_all
   try omega
  refine U 75116207810 ?_;refine dY (.rd 0 (.rd 1 (.rd 2 (.rd 3 (.rd 4 (.rd 5 (.rd 6 (.rd 7 (.rd 8 (.one 9 (.rd 10 (.rd 11 .done)))))))))))) ?_;refine U 7070 ?_;refine aM Bk ?_;refine aM (Bk (i:=0)) ?_;refine U 70800 ?_;refine Jk 29 (fun g37=>?_) fun g37=>?_
  rotate_left
  ·refine U 600600600 ?_;refine Ww ?_;refine U 8519200840010300880300000600 ?_
   refine aw (i+1) ?_ ?_ (h5:=?_)
   ·refine ⟨by omega,?_⟩
    rw [i0 O,he,Zr,← Bh]
    simp_all
    try omega
   ·show l.length-(i+1)<l.length-i;omega
   ·exact .cons (cI O) .nil
  refine U 7070 ?_;refine aM Bk ?_
  refine ir (ar (vo UD (l.getD i 0)) ?_)
  refine U 8803000000800 ?_;refine ap (fun h37=>?_) fun h37=>?_
  ·refine U 8000300050003000300050007000516 ?_;refine cB ?_
   rw [tz,xI (p:=nS) (show i<l.length by omega) (by rw [← Bh];simp_all;try omega),ZJ]
  refine U 8519200840010 ?_
  refine aw (i+1) ?_ ?_ (h5:=?_)
  ·refine ⟨by omega,?_⟩
   rw [i0 O,he,Zr,← Bh]
   simp_all
   try omega
  ·show l.length-(i+1)<l.length-i;omega
  ·exact .cons (cI O) .nil
theorem tc {gs:List Nat} (l:Z):cc gs Tryz.prog 113 [an l] (.c (.bool (kA l))):=by
 refine aj 53 Tryz.func113 fun al w0 F0 St0=>?_;refine U 1240000167516 ?_;refine aK 8 (fun g41=>?_) fun g41=>?_
 ·refine U 8000300070005169000510000000044444411000000004441100000000444 ?_;refine cB ?_
  refine (bax.2 fun h=>?_).symm
  obtain ⟨k1,k2,k3,k4,_⟩:=nc.1 h
  omega
 refine U 15002400001 ?_;refine aK 13 (fun g41_2=>?_) fun g41_2=>?_
 ·refine U 800030007000516900051000000004444441100000000444 ?_;refine cB ?_
  refine (bax.2 fun h=>?_).symm
  obtain ⟨k1,k2,k3,k4,_⟩:=nc.1 h
  omega
 refine U 1 ?_;refine jq (Bk (i:=0)) ?_;refine U 15002 ?_;refine aK 18 (fun g41_3=>?_) fun g41_3=>?_
 ·refine U 80003000700051690005100000000444444 ?_;refine cB ?_
  refine (bax.2 fun h=>?_).symm
  obtain ⟨k1,k2,k3,k4,_⟩:=nc.1 h
  omega
 refine U 94000011 ?_;refine jq (Bk (i:=(l.length-1)) (hz:=by omega)) ?_;refine U 55002 ?_;refine ap (fun h41=>?_) fun h41=>?_
 ·refine U 800030007000516 ?_;refine cB ?_
  refine (bax.2 fun h=>?_).symm
  obtain ⟨k1,k2,k3,k4,_⟩:=nc.1 h
  omega
 refine U 205167810 ?_;refine ax (α:=Nat) [2,3,4,26,27,28,29,30,31,32,33,34,35,36,37,38,39,40,41,42,43,44,45,46,47,48,49,50,51,52] (fun i=>[(3,.c (.int .i64 (i:Nat)))]) (fun _=>[]) (fun i=>i≤l.length∧(l.take i).all nS=true) (fun i=>l.length-i) (0) ?_ (fun _=>rfl) ?_ ?_ ?_
 ·exact ⟨YT _,by simp⟩
 ·exact .cons I .nil
 ·(repeat (exact aP.nil))
 ·rintro i ⟨hi,he⟩
  refine U 52400001167 ?_;refine ap (fun h44=>?_) fun h44=>?_
  rotate_left
  ·refine U 8000700051684000200020006000 ?_;refine cB ?_
   have e:l.take i=l:=Y0 O
   rw [e] at he
   exact (nc.2 ⟨by omega,by omega,by omega,by omega,he⟩).symm
  refine U 5180000000116207810 ?_
  obtain ⟨x,hx⟩:∃ x,x=(l.getD i 0).toNat:=⟨_,rfl⟩
  refine jE (aS 4 (.c (.int .u8 (x:Nat))) (cI (by rw [hx]))) ?_;refine U 1216 ?_;refine aK 37 (fun g46=>?_) fun g46=>?_
  ·refine U 121110000000044 ?_;refine aK 44 (fun g46_2=>?_) fun g46_2=>?_
   ·refine U 510000000021110000000010000000044 ?_;refine ap (fun h46=>?_) fun h46=>?_
    ·refine U 8000300050003000300050007000516 ?_;refine cB ?_
     unfold kA
     rw [xI (p:=nS) (show i<l.length by omega) (by unfold nS;rw [← hx];simp;omega),ZJ]
    refine U 85191200840010 ?_
    refine aw (i+1) ?_ ?_ (h5:=?_)
    ·refine ⟨by omega,?_⟩
     rw [i0 O,he,Zr]
     unfold nS
     rw [← hx]
     simp
     omega
    ·show l.length-(i+1)<l.length-i;omega
    ·exact .cons (cI O) .nil
   refine U 110000000050021 ?_;refine aK 49 (fun g46_3=>?_) fun g46_3=>?_
   rotate_left
   ·refine U 85191200840010300550044 ?_
    refine aw (i+1) ?_ ?_ (h5:=?_)
    ·refine ⟨by omega,?_⟩
     rw [i0 O,he,Zr]
     unfold nS
     rw [← hx]
     simp
     omega
    ·show l.length-(i+1)<l.length-i;omega
    ·exact .cons (cI O) .nil
   refine U 510000000021 ?_;refine ap (fun h46=>?_) fun h46=>?_
   ·refine U 8000300050003000300050007000516 ?_;refine cB ?_
    unfold kA
    rw [xI (p:=nS) (show i<l.length by omega) (by unfold nS;rw [← hx];simp;omega),ZJ]
   refine U 85191200840010 ?_
   refine aw (i+1) ?_ ?_ (h5:=?_)
   ·refine ⟨by omega,?_⟩
    rw [i0 O,he,Zr]
    unfold nS
    rw [← hx]
    simp
    omega
   ·show l.length-(i+1)<l.length-i;omega
   ·exact .cons (cI O) .nil
  refine U 150021 ?_;refine aK 41 (fun g46_2=>?_) fun g46_2=>?_
  rotate_left
  ·refine U 851912008400103005500441500444444 ?_
   refine aw (i+1) ?_ ?_ (h5:=?_)
   ·refine ⟨by omega,?_⟩
    rw [i0 O,he,Zr]
    unfold nS
    rw [← hx]
    simp
    omega
   ·show l.length-(i+1)<l.length-i;omega
   ·exact .cons (cI O) .nil
  refine U 121 ?_;refine aK 44 (fun g46_3=>?_) fun g46_3=>?_
  ·refine U 510000000021110000000010000000044 ?_;refine ap (fun h46=>?_) fun h46=>?_
   ·refine U 8000300050003000300050007000516 ?_;refine cB ?_
    unfold kA
    rw [xI (p:=nS) (show i<l.length by omega) (by unfold nS;rw [← hx];simp;omega),ZJ]
   refine U 85191200840010 ?_
   refine aw (i+1) ?_ ?_ (h5:=?_)
   ·refine ⟨by omega,?_⟩
    rw [i0 O,he,Zr]
    unfold nS
    rw [← hx]
    simp
    omega
   ·show l.length-(i+1)<l.length-i;omega
   ·exact .cons (cI O) .nil
  refine U 110000000050021 ?_;refine aK 49 (fun g46_4=>?_) fun g46_4=>?_
  rotate_left
  ·refine U 85191200840010300550044 ?_
   refine aw (i+1) ?_ ?_ (h5:=?_)
   ·refine ⟨by omega,?_⟩
    rw [i0 O,he,Zr]
    unfold nS
    rw [← hx]
    simp
    omega
   ·show l.length-(i+1)<l.length-i;omega
   ·exact .cons (cI O) .nil
  refine U 510000000021 ?_;refine ap (fun h46=>?_) fun h46=>?_
  ·refine U 8000300050003000300050007000516 ?_;refine cB ?_
   unfold kA
   rw [xI (p:=nS) (show i<l.length by omega) (by unfold nS;rw [← hx];simp;omega),ZJ]
  refine U 85191200840010 ?_
  refine aw (i+1) ?_ ?_ (h5:=?_)
  ·refine ⟨by omega,?_⟩
   rw [i0 O,he,Zr]
   unfold nS
   rw [← hx]
   simp
   omega
  ·show l.length-(i+1)<l.length-i;omega
  ·exact .cons (cI O) .nil
section
variable {gs:List Nat} [gQ gs]

theorem Ea [qI gs] (l:Z) (most:Int) (hl:l.length≤1000000000):cc gs Tryz.prog 162 [an l,.c (.int .i64 most)] (.err (ay l most)):=by
 refine aj 20 Tryz.func162 fun al w0 F0 St0=>?_;refine U 516000016207516 ?_;refine ap (fun h47=>?_) fun h47=>?_
 ·refine dP ?_;refine jq (cK 1) ?_;refine U 51 ?_
  refine jR (Jq (kq (eA (hv:=aa.errN (by unfold ay;rw [YF (by simpa using h47)])))))
 refine U 51214000016 ?_;refine ap (fun h49=>?_) fun h49=>?_
 ·refine dP ?_;refine jq (cK 2) ?_;refine U 51 ?_
  refine jR (Jq (kq (eA (hv:=aa.errN (by unfold ay;rw [YE (by simpa using h47),YF h49])))))
 refine U 16 ?_
 refine au (ar (EL l hl) ?_)
 refine U 5130 ?_;refine ap (fun h51=>?_) fun h51=>?_
 ·refine dP ?_;refine jq (cK 7) ?_;refine U 51 ?_
  refine jR (Jq (kq (eA (hv:=aa.errN (by unfold ay;rw [YE (by simpa using h47),YE h49,YF (by simpa using h51)])))))
 refine U 516840010 ?_
 refine jR (eA (hv:=aa.nilE (by unfold ay;rw [YE (by simpa using h47),YE h49,YE (by simpa using h51)])))
theorem O9 (l:Z) (most:Int):ay l most≤8:=by
 unfold ay
 repeat' split
 all_goals omega
theorem PA [qI gs] (l:Z) (most:Int) (hl:l.length≤1000000000):cc gs Tryz.prog 103 [an l,.c (.int .i64 most)] (.tup 2 (fl [aV (if ay l most=0 then l else []),.err (ay l most)])):=by
 refine aj 15 Tryz.func103 fun al w0 F0 St0=>?_;refine U 11675116 ?_
 refine au (ar (Ea l most hl) ?_)
 refine U 55000001651 ?_;refine ap (fun h59=>?_) fun h59=>?_
 ·refine U 51116 ?_
  refine jR (kq (eA (hv:=cT (aa.nilS' (by rw [YE h59];rfl)) I)))
 refine U 16810 ?_
 refine au (WI ?_)
 refine U 80007000511 ?_
 have h:ay l most=0:=by omega
 exact cT (aa.bs (by rw [YF h])) (aa.nilE h)
theorem PB [qI gs] (l:Z) (most:Int) (hl:l.length≤1000000000):cc gs Tryz.prog 131 [aV l,.c (.int .i64 most)] (.tup 2 (fl [an (if ay l most=0 then l else []),.err (ay l most)])):=by
 refine aj 17 Tryz.func131 fun al w0 F0 St0=>?_;refine U 165116 ?_
 first|refine jq Fg ?_|refine gw Ns ?_|refine jq XG ?_
 refine U 116751 ?_
 refine au (ar (Ea l most hl) ?_)
 refine U 55000001651 ?_;refine ap (fun h68=>?_) fun h68=>?_
 ·refine U 51116 ?_
  refine jR (kq (eA (hv:=cT (aa.strL (by rw [YE h68])) I)))
 refine U 8000700051116810 ?_
 have h:ay l most=0:=by omega
 exact cT (aa.strL (by rw [YF h])) (aa.nilE h)
theorem yZ {gs:List Nat} (l:Z) (most:Int) (hl:l.length≤1000000000):cc gs Tryz.prog 178 [an l,.c (.int .i64 most)] (.c (.int .i64 (ay l most:Nat))):=by
 refine aj 15 Tryz.func178 fun al w0 F0 St0=>?_;refine U 5240000167516 ?_;refine ap (fun h55=>?_) fun h55=>?_
 ·refine U 516 ?_
  refine jR (kq (eA (hv:=cI (by unfold ay;rw [jP];rfl))))
 refine U 52140000167810 ?_;refine ap (fun h58=>?_) fun h58=>?_
 ·refine U 516 ?_
  refine jR (kq (eA (hv:=cI (by unfold ay;rw [jK,YF h58];rfl))))
 refine U 167810 ?_
 refine au (ar (Ih l hl) ?_)
 refine U 530 ?_;refine ap (fun h61=>?_) fun h61=>?_
 ·refine U 516 ?_
  refine jR (kq (eA (hv:=cI (by unfold ay;rw [jK,YE h58,YF (by simpa using h61)];rfl))))
 refine U 516810 ?_
 refine jR (eA (hv:=cI (by unfold ay;rw [jK,YE h58,YE (by simpa using h61)];rfl)))
end
section
variable {gs:List Nat} [gQ gs]
open Go.RowKit Cal

theorem OF (n:Nat) (s:W8) (hs:uQ s):AC gs Tryz.prog 49 [ii n s] [.op 0 (some n) 0] (fun r H'=>r=.tup 2 (fl [aV (uG s),.err (jl s)])∧H'=[ii n s]):=by
 have hsd:=hs.d
 have bad:∀ {e},jl s=e→e≠0→uG s=[]:=fun h h0=>by unfold uG;rw [h,YE h0]
 refine aj 35 Tryz.func49 fun al w0 F0 St0=>?_;refine U 2075116 ?_;refine gN 0 rfl fun go gd zs hzs=>?_;refine U 515000005010004016 ?_;refine ap (fun h140=>?_) fun h140=>?_
 ·refine gY ?_;refine dY (.rd 0 (.rd 1 (.rd 2 (.rd 3 (.rd 4 (.rd 5 .done)))))) ?_;refine U 5000070 ?_;refine aM (fF 2 1 false) ?_;refine U 300050007000880707010000 ?_
  have e:jl s=s.k:=by unfold jl;rw [jP]
  exact iU (gd:=fun z:BT s.fr=>z.1.1) (E:=BQ s) (.inl rfl) ⟨(n,go,gd,zs),hzs⟩ [0,1,2,3] jD rfl (bB rfl bJ bJ) (cT (by rw [bad e O];exact cN) (aa.err e.symm))
 refine U 512350904016 ?_;refine ap (fun h142=>?_) fun h142=>?_
 ·refine gY ?_;refine dY (.rd 0 (.rd 1 (.rd 2 .done))) ?_;refine aM (cK 23) ?_;refine U 3000500070008807070 ?_
  have e:jl s=24:=by unfold jl;rw [jK,YF (by intro h;rw [h] at h142;simp at h142)]
  exact iU (gd:=fun z:BT s.fr=>z.1.1) (E:=BQ s) (.inl rfl) ⟨(n,go,gd,zs),hzs⟩ [0,1,2,3] jD rfl (bB rfl bJ bJ) (cT (by rw [bad e O];exact cN) (aa.err e.symm))
 refine U 5123501004016 ?_;refine ap (fun h144=>?_) fun h144=>?_
 ·refine gY ?_;refine dY (.rd 0 (.rd 1 (.rd 2 .done))) ?_;refine aM (cK 2) ?_;refine U 3000500070008807070 ?_
  have hf0:s.fr=[]:=Y1 O
  have e:jl s=3:=by unfold jl;rw [jK,YE (by simp [hf0]),jP]
  exact iU (gd:=fun z:BT s.fr=>z.1.1) (E:=BQ s) (.inl rfl) ⟨(n,go,gd,zs),hzs⟩ [0,1,2,3] jD rfl (bB rfl bJ bJ) (cT (by rw [bad e O];exact cN) (aa.err e.symm))
 refine U 501004016840010 ?_
 refine aq (aQ 2 (J7 s.d gd O) ?_)
 refine U 7000511 ?_
 have hf0:s.fr=[]:=Y1 O
 have e:jl s=0:=by unfold jl;rw [jK,YE (by simp [hf0]),jK]
 exact iU (gd:=fun z:BT s.fr=>z.1.1) (E:=BQ s) (.inl rfl) ⟨(n,go,gd,zs),hzs⟩ [0,1,2,3] jD rfl (bB rfl bJ bJ) (cT (aa.bs (by unfold uG;rw [YF e])) (aa.nilE e))
theorem RH (n:Nat) (s:W8) (z:Int) (hz:-9223372036854775808≤z∧z≤9223372036854775807) (hs:uQ s):AC gs Tryz.prog 44 [ii n s] [.op 0 (some n) 0,.c (.int .i64 z)] (fun r H'=>r=.c (.tuple #[])∧H'=[ii n (fD 2 (kz z) 0 s)]):=by
 have hl:=(wD z hz.1 hz.2).2
 refine aj 8 Tryz.func44 fun al w0 F0 St0=>?_;refine U 11200 ?_
 refine au (ar (PH z hz.1 hz.2) ?_)
 refine aq (aQ 0 (pU n s 2 (kz z) 0 hs O) ?_)
 refine U 5 ?_
 exact bV (.inr rfl) _ [_] [0] jD rfl (cM rfl) ⟨rfl,rfl⟩
theorem wK (n:Nat) (s:W8) (b:Z) (hb:b.length≤1000000) (hs:uQ s):AC gs Tryz.prog 42 [ii n s] [.op 0 (some n) 0,aV b] (fun r H'=>r=.c (.tuple #[])∧H'=[ii n (fD 4 b 0 s)]):=by
 refine aj 7 Tryz.func42 fun al w0 F0 St0=>?_;refine U 11200 ?_
 refine aq (aQ 0 (pU n s 4 b 0 hs hb) ?_)
 refine U 5 ?_
 exact bV (.inr rfl) _ [_] [0] jD rfl (cM rfl) ⟨rfl,rfl⟩
theorem Cb [qI gs] (n:Nat) (s:W8) (t:Z) (most:Int) (ht:t.length≤1000000) (hs:uQ s):AC gs Tryz.prog 47 [ii n s] [.op 0 (some n) 0,an t,.c (.int .i64 most)] (fun r H'=>r=.c (.tuple #[])∧H'=[ii n (fD 12 (if ay t most=0 then t else []) (ay t most) s)]):=by
 have hl:(if ay t most=0 then t else []).length≤1000000:=by split <;> first|omega|simp
 refine aj 18 Tryz.func47 fun al w0 F0 St0=>?_;refine U 116 ?_
 refine au (ar (PA t most O) ?_)
 refine U 1112005119009001 ?_
 refine aq (aQ 0 (pU n s 12 (if ay t most=0 then t else []) (ay t most) hs hl) ?_)
 refine U 5 ?_
 exact bV (.inr rfl) _ [_] [0] jD rfl (cM rfl) ⟨rfl,rfl⟩
theorem Q4 (n:Nat) (s:W8) (t:Z) (ht:t.length≤1000000) (hs:uQ s):AC gs Tryz.prog 99 [ii n s] [.op 0 (some n) 0,an t] (fun r H'=>r=.c (.tuple #[])∧H'=[ii n (fD 6 (ja t) (bH t).2 s)]):=by
 have hl:(ja t).length≤1000000:=Zd (A4 t) jD
 refine aj 15 Tryz.func99 fun al w0 F0 St0=>?_;refine U 16 ?_
 refine au (ar (Q3 t O) ?_)
 refine U 1112005119009001 ?_
 refine aq (aQ 0 (pU n s 6 (ja t) (bH t).2 hs hl) ?_)
 refine U 5 ?_
 exact bV (.inr rfl) _ [_] [0] jD rfl (cM rfl) ⟨rfl,rfl⟩
theorem JP (n:Nat) (s:W8) (z:Int) (hs:uQ s):AC gs Tryz.prog 43 [ii n s] [.op 0 (some n) 0,.c (.int .i64 z)] (fun r H'=>r=.c (.tuple #[])∧H'=[ii n (fD 3 (nt z) (sS z) s)]):=by
 have hf:cc gs Tryz.prog 101 [.c (.int .i64 z)] (.tup 2 (fl [aV (nt z),.err (sS z)])):=by
  unfold nt sS
  by_cases h:z<0∨32767<z
  ·rw [YF h,YF h];exact JO z h
  ·rw [YE h,YE h]
   have:=Oe (gs:=gs) z.toNat O
   rwa [aHx O] at this
 have hl:(nt z).length≤1000000:=by
  unfold nt
  split
  ·simp
  ·rw [tQ O]
   have:=(D5 (m:=z.toNat) O).2
   omega
 refine aj 15 Tryz.func43 fun al w0 F0 St0=>?_;refine U 16 ?_
 refine au (ar hf ?_)
 refine U 1112005119009001 ?_
 refine aq (aQ 0 (pU n s 3 (nt z) (sS z) hs hl) ?_)
 refine U 5 ?_
 exact bV (.inr rfl) _ [_] [0] jD rfl (cM rfl) ⟨rfl,rfl⟩
theorem QS (n:Nat) (s:W8) (b:Z) (hb:b.length≤1000000) (hs:uQ s):AC gs Tryz.prog 84 [ii n s] [.op 0 (some n) 0,aV b] (fun r H'=>r=.c (.tuple #[])∧H'=[ii n (tk b s)]):=by
 refine aj 16 Tryz.func84 fun al w0 F0 St0=>?_;refine U 116 ?_
 refine au (ar (xA b O) ?_)
 refine aq (aQ 0 (sJ n s (aN b).2) ?_)
 refine U 5 ?_;refine gN 0 rfl fun go gd zs hzs=>?_;refine U 55000005010004016 ?_;refine ap (fun h132=>?_) fun h132=>?_
 rotate_left
 ·refine U 10 ?_
  have hP:tk b s=bZ (aN b).2 s:=by unfold tk;rw [jK]
  rw [hP]
  exact bO (gd:=fun z:BT (bZ (aN b).2 s).fr=>z.1.1) (E:=BQ (bZ (aN b).2 s)) (.inr rfl) _ ⟨(n,go,gd,zs),hzs⟩ [0,1,2,3] jD rfl (cM rfl) ⟨rfl,rfl⟩
 have hk:(bZ (aN b).2 s).k=0:=by omega
 refine jE (pA n (bZ (aN b).2 s) zs 0 1 2 3 hzs rfl rfl rfl rfl jD (cO rfl) (cO rfl) I (YG _) (fun _ _=>I) (YG _) (fun _ _=>I)) ?_
 dsimp only [List.set_cons_zero,List.set_cons_succ,List.cons_append,List.nil_append,List.length_cons,List.length_nil,Nat.zero_add,Nat.reduceAdd]
 have hF:bZ (aN b).2 s=s:=by
  obtain ⟨fr,d,k⟩:=s
  unfold bZ at hk ⊢
  split
  ·rename_i h
   rw [YF h] at hk
   have h:k=0:=h
   have hk0:(aN b).2=0:=hk
   rw [h,hk0]
  ·rfl
 rw [hF]
 refine U 11200 ?_
 refine aq (aQ 0 (He n s b hs O) ?_)
 refine U 5 ?_
 have hP:tk b s=de b s:=by unfold tk;rw [YF hk]
 rw [hP]
 exact bV (.inr rfl) _ [_] [0] jD rfl (cM rfl) ⟨rfl,rfl⟩

def W6:W8:=⟨[],[],0⟩
theorem nB {α:Type} (l:List α) (n i:Nat) (x:α) (h:n≤i):(l.set i x).take n=l.take n:=by
 rw [List.take_set,List.set_eq_of_length_le]
 rw [YS];omega
theorem Wp {G:Gh} {env:List (Nat×CV)} {b0:Nat→CV} {H:List (Option Nat×bi)} (n i:Nat) {f:Nat→CV} (hi:H[i]?=some (some n,.blk 3 f)) (h0:aa (f 0) (.c (.slice none 0 0))) (h1:aa (f 1) (.c (.slice none 0 0))) (h2:aa (f 2) (.err 0)):dh G ⟨env,b0,H⟩ ⟨env,b0,H.set i (ii n W6)⟩:=by
 have hil:=(YJ.1 hi).1
 have os0:∀ {j k:Nat},aa (.c (.slice none 0 0)) (.os j none 0 0 k):=fun al St w v h=>⟨rfl,h⟩
 intro St a w hr
 obtain ⟨S1,s1,r1⟩:=gL (G:=G) (s:=⟨env,b0,H⟩) (fV 2 sY tN []) St a w hr
 obtain ⟨S2,s2,r2⟩:=gL (G:=G) (s:=⟨env,b0,H++[(none,.blk 0 (fV 2 sY tN []))]⟩) (bc []) S1 a w r1
 obtain ⟨S3,s3,r3⟩:=bag_new (G:=G) (env:=env) (b0:=b0) (H:=H++[(none,.blk 0 (fV 2 sY tN []))]++[(none,.blk 0 (bc []))]) S2 a w r2
 obtain ⟨S4,s4,r4⟩:=pA (G:=G) (env:=env) (b0:=b0) (H:=H++[(none,.blk 0 (fV 2 sY tN []))]++[(none,.blk 0 (bc []))]++[jW []]) n W6 [] i H.length (H.length+1) (H.length+2) rfl (go:=none) (gd:=none) (No:=0) (Nd:=0) (f:=f) (Fo:=fV 2 sY tN []) (Fd:=bc [])
  (by rw [Zb,Zb,YL hil];exact hi) (by simp) (by simp []) (by simp []) (by simp;omega) (h0.trans os0) (h1.trans os0) h2 (YG _) (fun a h=>absurd h (YW a)) (YG _) (fun a h=>absurd h (YW a)) S3 a w r3
 obtain ⟨S5,s5,r5⟩:=cn (G:=G) (H':=H.set i (ii n W6)) (List.range H.length) (iO _) (by
  rw [iQ _ _ (by simp)]
  simp only [Zb]
  rw [nB _ _ _ _ O,nB _ _ _ _ O,nB _ _ _ _ O,List.take_set,List.take_left]) S4 a w r4
 exact ⟨S5,fun b hb=>s5 b (s4 b (s3 b (s2 b (s1 b hb)))),r5⟩
theorem XX:uQ W6:=⟨by decide,fun _ h=>(by cases h),by decide⟩
def gR (v:VV):CV:=.agg 5 (fl [.c (.int .i64 v.kind),.c (.int .i64 v.n),.c (.bool v.is),aV v.b,an v.t])
structure Yw (v:VV):Prop where
 n:-9223372036854775808≤v.n∧v.n≤9223372036854775807
 b:v.b.length≤1000000
 t:v.t.length≤1000000


structure Yx (s:R8):Prop where
 ok:Yy s
 sum:∀ j,cp (s.rows.getD j [])≤1000000
 tag:∀ x ∈ s.tags,0≤x∧x<256
 lt:s.tags.length≠0→s.tags.length<s.rows.length

end
section
open Go.RowKit Cal
structure jY (v:VV):Prop where
 n:-9223372036854775808≤v.n∧v.n≤9223372036854775807
 b:v.b.length≤300
 t:v.t.length≤300
theorem jY.ok {v:VV} (h:jY v):Yw v:=⟨h.n,by have:=h.b;omega,by have:=h.t;omega⟩
def BS (fr:List (Int×YD)):Nat:=(fr.map fun x=>cp x.2+6).sum
def xQ (s:W8):Nat:=s.d.length+BS s.fr
theorem pu (x:Int×YD) (fr:List (Int×YD)):BS (x::fr)=cp x.2+6+BS fr:=by simp [BS]
theorem HD (l:YD) (b:Z):cp (l++[b])=cp l+b.length:=by rw [rP];simp [cp]
theorem ez (tag:Int) (b:Z):(bL tag b).length≤b.length+6:=by
 unfold bL
 have:=sj b.length
 simp only [List.length_cons,YI]
 omega
theorem Kw (b:Z) (s:W8):xQ (de b s)=xQ s+b.length:=by
 obtain ⟨fr,d,k⟩:=s
 cases fr with
 | nil=>simp [xQ,de,BS]
 | cons x fr =>
  show d.length+BS ((x.1,x.2++[b])::fr)=d.length+BS (x::fr)+_
  rw [pu,pu]
  show d.length+(cp (x.2++[b])+6+BS fr)=_
  rw [HD]
  omega
theorem Aq (e:Nat) (s:W8):xQ (bZ e s)=xQ s:=by unfold bZ;split <;> rfl
theorem Em (tag:Int) (b:Z) (e:Nat) (s:W8):xQ (fD tag b e s)≤xQ s+b.length+6:=by
 unfold fD
 split
 ·rw [Aq];omega
 ·split
  ·show s.d.length+BS s.fr≤_;unfold xQ;omega
  ·rw [Kw];have:=ez tag b;omega
theorem uL {v:VV} (h:jY v):(bp v).2.1.length≤300:=by
 have h1:=h.b
 have h2:=h.t
 have h3:=(wD v.n h.n.1 h.n.2).2
 have h4:=A4 v.t
 unfold bp
 split
 ·show (kz v.n).length≤_;omega
 ·split
  ·show (kz v.n).length≤_;omega
  ·split
   ·show [if v.is then (255:UInt8) else 0].length≤_;simp
   ·split
    ·exact h1
    ·split
     ·show (if ay v.t v.n=0 then v.t else []).length≤_;split <;> first|omega|simp
     ·split
      ·show (ja v.t).length≤_;omega
      ·split
       ·show (if Fl v.n then fJ (Gz v.n) else []).length≤_
        split
        ·exact Zd (ZR (show (fJ (Gz v.n)).length=15 from rfl)) jD
        ·simp
       ·show (nt v.n).length≤_
        unfold nt
        split
        ·simp
        ·rw [tQ O]
         have:=(D5 (m:=v.n.toNat) O).2
         omega
theorem VW {v:VV} (h:jY v) (s:W8):xQ (mr v s)≤xQ s+400:=by
 have hb:=h.b
 unfold mr
 split
 ·unfold di
  split
  ·omega
  ·split
   ·show s.d.length+BS s.fr≤_;unfold xQ;omega
   ·split
    ·show s.d.length+BS s.fr≤_;unfold xQ;omega
    ·show s.d.length+BS _≤_
     rw [pu]
     unfold xQ
     simp [cp];omega
 ·split
  ·unfold dN
   split
   ·omega
   ·obtain ⟨fr,d,k⟩:=s
    cases fr with
    | nil=>show d.length+BS []≤d.length+BS []+_;omega
    | cons x fr =>
     have h1:=Em x.1 (nr x) 0 ⟨fr,d,k⟩
     rw [Ah] at h1
     refine Zd h1 ?_
     show d.length+BS fr+_+_≤d.length+BS (x::fr)+_
     rw [pu]
     omega
  ·split
   ·unfold tk
    split
    ·rw [Kw];omega
    ·rw [Aq];omega
   ·have h1:=Em (bp v).1 (bp v).2.1 (bp v).2.2 s
    have h2:=uL h
    omega
theorem Gw {m:Nat} {r:List (YD)} {x:YD} (h:x ∈ uW m r):x ∈ r∨x=[]:=by
 unfold uW at h
 rcases akx.1 h with h|h
 ·exact .inl h
 ·exact .inr (List.eq_of_mem_replicate h)
theorem O6 (r:List (YD)) (j:Nat):r.getD j [] ∈ r∨r.getD j []=[]:=by
 rw [YH]
 cases e:r[j]? with
 | none=>exact .inr rfl
 | some x=>exact .inl (ZF e)
def Hi (r r':R8):Prop:=(r'.rows.length≤max r.rows.length (r'.tags.length+1))∧∀ x ∈ r'.rows,x ∈ r.rows∨x=[]∨∃ y b,(y ∈ r.rows∨y=[])∧x=y++[b]∧x=r'.rows.getD r'.tags.length []
theorem iE {r r':R8} (h:r'.rows=r.rows):Hi r r':=⟨by rw [h];omega,fun x hx=>.inl (h ▸ hx)⟩
theorem zO (b:Z) (r:R8):Hi r (Gr b r):=by
 have hp:r.tags.length<(uW (r.tags.length+1) r.rows).length:=by rw [r9];omega
 refine ⟨?_,fun x hx=>?_⟩
 ·show (List.set _ _ _).length≤max _ (r.tags.length+1)
  rw [ZW,r9]
  omega
 ·rcases byx hx with h|h
  ·rcases Gw h with h|h
   ·exact .inl h
   ·exact .inr (.inl h)
  ·refine .inr (.inr ⟨_,b,?_,h,?_⟩)
   ·rw [nL];exact O6 _ _
   ·show x=List.getD (List.set _ _ _) r.tags.length []
    rw [pM _ _ _ _ hp,YF rfl]
    exact h
theorem zN (t:Int) (b:Z) (r:R8):Hi r (yO t b r):=by
 unfold yO
 split
 ·exact iE rfl
 ·exact zO _ r
theorem Do (v:VV) (r:R8):Hi r (oI v r):=by
 unfold oI
 split
 ·exact iE rfl
 ·split
  ·unfold AT
   split
   ·exact iE rfl
   ·split
    ·exact iE rfl
    ·refine ⟨?_,fun x hx=>?_⟩
     ·show (List.set _ _ _).length≤max _ ((r.tags++[v.n]).length+1)
      rw [ZW,r9,YI,ZC]
      omega
     ·rcases byx hx with h|h
      ·rcases Gw h with h|h
       ·exact .inl h
       ·exact .inr (.inl h)
      ·exact .inr (.inl h)
  ·split
   ·unfold ve
    split
    ·exact iE rfl
    ·exact zN _ _ ⟨_,r.rows,r.e⟩
   ·split
    ·split
     ·exact iE rfl
     ·exact zO _ r
    ·split
     ·exact iE rfl
     ·exact zN _ _ r
theorem GX {fr:List (Int×YD)} {x:Int×YD} (h:x ∈ fr):cp x.2≤BS fr:=by
 induction fr with
 | nil=>cases h
 | cons y fr ih =>
  rw [pu]
  rcases Zg.1 h with rfl|h
  ·omega
  ·have:=ih h;omega
theorem xL {r:R8} {s:W8} (h:nw r s):cp (r.rows.getD r.tags.length [])≤xQ s:=by
 have hl:r.tags.length=s.fr.length:=by rw [h.tags];simp
 obtain ⟨fr,d,k⟩:=s
 cases fr with
 | nil =>
  rw [hl]
  show cp (r.rows.getD 0 [])≤_
  rw [← sB,h.row0]
  unfold xQ
  omega
 | cons x fr =>
  have hr:=h.row fr.length (by simp)
  rw [hl]
  show cp (r.rows.getD (fr.length+1) [])≤_
  rw [hr]
  have e:((x::fr).map Prod.snd).reverse.getD fr.length []=x.2:=by simp
  show cp (((x::fr).map Prod.snd).reverse.getD fr.length [])≤_
  rw [e]
  have:=GX (fr:=x::fr) (x:=x) Y2
  unfold xQ
  show _≤d.length+BS (x::fr)
  omega
structure gP (i:Nat) (r:R8) (s:W8):Prop where
 same:nw r s
 w:xQ s≤400 * i
 rows:∀ x ∈ r.rows,x.length≤i∧cp x≤400 * i
 n:r.rows.length≤18
theorem NK:gP 0 ⟨[],[],0⟩ ⟨[],[],0⟩:=⟨H0,by decide,fun _ h=>(by cases h),by decide⟩
theorem mL {i:Nat} {r:R8} {s:W8} (h:gP i r s) {v:VV} (hv:jY v):gP (i+1) (oI v r) (mr v s):=by
 have hs:=Ga h.same v
 have hw:=VW hv s
 have hg:=Do v r
 have h0:=h.w
 have hl:(oI v r).tags.length≤16:=by rw [hs.tags];simpa using hs.lim
 refine ⟨hs,by omega,fun x hx=>?_,?_⟩
 ·rcases hg.2 x hx with h1|h1|⟨y,b,h1,h2,h3⟩
  ·have:=h.rows x h1;omega
  ·subst h1;simp [cp]
  ·have ha:=xL hs
   rw [← h3] at ha
   refine ⟨?_,by omega⟩
   rw [h2,YI,ZC]
   rcases h1 with h1|h1
   ·have:=h.rows y h1;omega
   ·subst h1;simp
 ·have:=hg.1
  have:=h.n
  omega
theorem Dl {i:Nat} {r:R8} {s:W8} (h:gP i r s) (e:Nat):gP i ⟨r.tags,r.rows,if r.e=0 then e else r.e⟩ (bZ e s):=by
 have hs:=h.same
 refine ⟨?_,by rw [Aq];exact h.w,h.rows,h.n⟩
 unfold bZ
 rw [hs.e]
 split
 ·exact ⟨hs.tags,rfl,hs.row0,hs.row,hs.len,hs.known,hs.lim⟩
 ·exact ⟨hs.tags,rfl,hs.row0,hs.row,hs.len,hs.known,hs.lim⟩
theorem gv {i:Nat} {r:R8} {s:W8} (h:gP i r s) (hi:i≤1000):uQ s:=by
 have hw:=h.w
 refine ⟨h.same.lim,fun x hx=>?_,by unfold xQ at hw;omega⟩
 obtain ⟨j,hj⟩:=aVx.1 hx
 have hjl:=(YJ.1 hj).1
 have hr:=h.same.row (s.fr.length-1-j) O
 have e:(s.fr.map Prod.snd).reverse.getD (s.fr.length-1-j) []=x.2:=by
  rw [YH,bex (by simp;omega)]
  simp only [Zy,ZB]
  rw [show s.fr.length-1-(s.fr.length-1-j)=j by omega,hj]
  rfl
 rw [e] at hr
 have hs:=GX hx
 unfold xQ at hw
 refine ⟨?_,by omega⟩
 rcases O6 r.rows (s.fr.length-1-j+1) with h1|h1
 ·have:=(h.rows _ h1).1
  rw [hr] at this
  omega
 ·rw [hr] at h1
  rw [h1];simp
end
def CH (l:YD) (k:Nat) (z:Nat×Option Nat):List (Option Nat×bi):=[(some z.1,.blk 2 (fl [.os 1 z.2 0 l.length 1,.err k])),(z.2,.blk l.length (oA l))]
def el (n:Nat) (l:YD) (k:Nat):Option Nat×bi:=mJ n (fun z:Nat×Option Nat=>z.1) (CH l k)
section
variable {P:Program} {G:Gh} {s:AS} {c:Code} {R:Exit→AS→Prop} {n k:Nat} {l:YD}
theorem DZ (i:Nat) (hi:s.H[i]?=some (el n l k)) (h:∀ gl,bj P G c ⟨s.env,s.b,s.H.set i (some n,.blk 2 (fl [.os s.H.length gl 0 l.length 1,.err k]))++[(gl,.blk l.length (oA l))]⟩ R):bj P G c s R:=by
 have hlt:=(YJ.1 hi).1
 refine mw i hi fun z hz=>?_
 obtain ⟨n',gl⟩:=z
 obtain rfl:n'=n:=hz
 refine jE (cW i 2 (fl [.os s.H.length gl 0 l.length 1,.err k]) (n:=2) (g:=some n') (f:=fl [.os 1 gl 0 l.length 1,.err k]) ?_ (YG _) fun j hj=>?_) ?_
 ·show (s.H.set i _++_)[i]?=_
  rw [YL (by simpa using hlt)]
  simp [hlt]
 ·rcases j with _|_|j
  ·exact cO rfl
  ·exact I
  ·omega
 ·have e:(s.H.set i (some n',bi.blk 2 (fl [.os 1 gl 0 l.length 1,.err k]))++[(gl,bi.blk l.length (oA l))]).set i (some n',.blk 2 (fl [.os s.H.length gl 0 l.length 1,.err k]))=s.H.set i (some n',.blk 2 (fl [.os s.H.length gl 0 l.length 1,.err k]))++[(gl,.blk l.length (oA l))]:=by
   rw [bmx _ _ (by simpa using hlt),aPx]
  have:=h gl
  rw [← e] at this
  exact this
theorem Sn (n k:Nat) (l:YD) (i j:Nat) {gl:Option Nat} {N:Nat} {f F:Nat→CV} (hi:s.H[i]?=some (some n,.blk 2 f)) (hj:s.H[j]?=some (gl,.blk N F)) (hij:Nat.beq i j=false) (h0:aa (f 0) (.os 1 gl 0 l.length 1)) (h1:aa (f 1) (.err k)) (hN:l.length≤N) (hF:∀ a,a<l.length→aa (F a) (oA l a)) :
  dh G s ⟨s.env,s.b,(s.H.set i (el n l k)).set j (none,.dead)⟩:=by
 have hij:=bKx hij
 have hil:=(YJ.1 hi).1
 have hjl:=(YJ.1 hj).1
 refine dh.hrel fun h=>?_
 have h2:=h.weak (F:=fl [.os 1 gl 0 l.length 1,.err k]) hi (YG _) fun a ha=>by
  rcases a with _|_|a
  ·exact h0
  ·exact h1
  ·omega
 have h3:=h2.weak (i:=j) (F:=oA l) (by rw [YZ hij];exact hj) hN hF
 have h4:=h3.closeN (gd:=fun z:Nat×Option Nat=>z.1) (E:=CH l k) (n,gl) i [j] (by simp [hij]) (by simp [hil,hjl]) (by
  simp only [im,Zc,aAx,YH]
  rw [YZ (Ne.symm hij)]
  simp [hil,hjl,CH])
 have e:lJ (((s.H.set i (some n,bi.blk 2 (fl [CV.os 1 gl 0 l.length 1,CV.err k]))).set j (gl,bi.blk l.length (oA l))).set i (mJ n (fun z:Nat×Option Nat=>z.1) (CH l k))) [j]=(s.H.set i (el n l k)).set j (none,.dead):=by
  show ((((s.H.set i _).set j _).set i _).set j _)=_
  rw [bFx _ _ (Ne.symm hij),aPx,aPx]
  rfl
 rw [← e]
 exact h4
theorem bv {env:List (Nat×CV)} {b0:Nat→CV} {H:List (Option Nat×bi)} (i:Nat) (hi:H[i]?=some (el n l k)) (h:∀ gl,bj P G c ⟨env,b0,H.set i (some n,.blk 2 (fl [.os H.length gl 0 l.length 1,.err k]))++[(gl,.blk l.length (oA l))]⟩ R):bj P G c ⟨env,b0,H⟩ R:=DZ i hi h
theorem cE {env:List (Nat×CV)} {b0:Nat→CV} {H:List (Option Nat×bi)} (n k:Nat) (l:YD) (i j:Nat) {gl:Option Nat} {N:Nat} {f F:Nat→CV} (hi:H[i]?=some (some n,.blk 2 f)) (hj:H[j]?=some (gl,.blk N F)) (hij:Nat.beq i j=false) (h0:aa (f 0) (.os 1 gl 0 l.length 1)) (h1:aa (f 1) (.err k)) (hN:l.length≤N) (hF:∀ a,a<l.length→aa (F a) (oA l a)) :
  dh G ⟨env,b0,H⟩ ⟨env,b0,(H.set i (el n l k)).set j (none,.dead)⟩:=Sn n k l i j hi hj hij h0 h1 hN hF
end
def aB (l:YD):Z:=l.getD (l.length-1) []
def bN (l:YD) (k:Nat):Bool:=decide (k=0) && decide (0<(aB l).length)
theorem wL {gs:List Nat} (n:Nat) (l:YD) (k:Nat) (hl:0<l.length∧l.length≤1000000):AC gs Tryz.prog 115 [el n l k] [.op 0 (some n) 0] (fun r H'=>r=aV (aB l)∧H'=[el n l k]):=by
 refine aj 15 Tryz.func115 fun al w0 F0 St0=>?_;refine bv 0 rfl fun gl=>?_;refine U 7516 ?_
 skip
 refine dY (.rd 0 (.rd 1 (.rd 2 (.rd 3 (.rd 4 (.rd 5 (.rd 6 (.rd 7 (.rd 8 (.rd 9 (.rd 10 (.rd 11 (.rd 12 .done))))))))))))) ?_;refine U 3000020000100009000005000070100009000005000070 ?_;refine aM (dU (i:=(l.length-1)) (hz:=by omega)) ?_;refine U 70008807010000 ?_
 exact bO (gd:=fun z:Nat×Option Nat=>z.1) (E:=CH l k) (.inl rfl) _ (n,gl) [0,1] jD rfl (av rfl (ak rfl)) ⟨rfl,rfl⟩
theorem tS {gs:List Nat} (n:Nat) (l:YD) (k e:Nat):AC gs Tryz.prog 121 [el n l k] [.op 0 (some n) 0,.err e] (fun r H'=>r=.c (.tuple #[])∧H'=[el n l (if k=0 then e else k)]):=by
 refine aj 13 Tryz.func121 fun al w0 F0 St0=>?_;refine bv 0 rfl fun gl=>?_;refine U 5500000501004016 ?_;refine ap (fun h161=>?_) fun h161=>?_
 rotate_left
 ·refine U 10 ?_
  rw [jK]
  exact bO (gd:=fun z:Nat×Option Nat=>z.1) (E:=CH l k) (.inr rfl) _ (n,gl) [0,1] jD rfl (cM rfl) ⟨rfl,rfl⟩
 refine U 1004011200 ?_
 refine aq (bo 1 (fl [.os 1 gl 0 l.length 1,.err e]) ?_ ?_)
 ·exact oB
 refine U 5 ?_
 rw [jP]
 exact bO (gd:=fun z:Nat×Option Nat=>z.1) (E:=CH l e) (.inr rfl) _ (n,gl) [0,1] jD rfl (cM rfl) ⟨rfl,rfl⟩
theorem Ov {gs:List Nat} (n:Nat) (l:YD) (k:Nat):AC gs Tryz.prog 119 [el n l k] [.op 0 (some n) 0] (fun r H'=>r=.err k∧H'=[el n l k]):=by
 refine aj 7 Tryz.func119 fun al w0 F0 St0=>?_;refine bv 0 rfl fun gl=>?_;refine U 516 ?_
 skip
 refine U 700051501004016 ?_
 exact bO (gd:=fun z:Nat×Option Nat=>z.1) (E:=CH l k) (.inl rfl) _ (n,gl) [0,1] jD rfl (av rfl (ak rfl)) ⟨rfl,rfl⟩
theorem gH {l:YD} {k:Nat} (h:bN l k=true):k=0∧0<(aB l).length:=by simpa [bN] using h
theorem GD {gs:List Nat} (n:Nat) (l:YD) (k:Nat) (hl:0<l.length∧l.length≤1000000):AC gs Tryz.prog 128 [el n l k] [.op 0 (some n) 0] (fun r H'=>r=.c (.bool (bN l k))∧H'=[el n l k]):=by
 refine aj 14 Tryz.func128 fun al w0 F0 St0=>?_;refine bv 0 rfl fun gl=>?_;refine U 516 ?_
 skip
 refine U 501004016 ?_;refine aI (cE n k l 0 1 rfl rfl rfl I I (YG _) (fun _ _=>I)) ?_;refine U 1500000 ?_;refine aK 8 (fun g173=>?_) fun g173=>?_
 ·refine U 1 ?_
  refine aq (aQ 0 (wL n l k hl) ?_)
  refine U 70005110000000023 ?_
  exact aJ (.inl rfl) rfl (av rfl (ak rfl)) (cB (by unfold bN;(simp [g173];done)))
 refine U 7000515004444 ?_
 exact aJ (.inl rfl) rfl (av rfl (ak rfl)) (cB (by unfold bN;(simp [g173];done)))
section
variable {gs:List Nat} [gQ gs]

structure NR where
 l:YD
 k:Nat
 tag:Nat
 body:Z
 raw:Z
 is:Bool
def ab (tag:Int) (l:YD) (k:Nat):NR :=
 if k≠0 then ⟨l,k,0,[],[],false⟩ else
 if (af (aB l)).e≠0 then ⟨l,(af (aB l)).e,0,[],[],false⟩ else
 if tag≠0∧((af (aB l)).tag:Int)≠tag then ⟨l,5,0,[],[],false⟩ else
 ⟨l.set (l.length-1) (af (aB l)).rest,0,(af (aB l)).tag,(af (aB l)).body,(aB l).take ((aB l).length-(af (aB l)).rest.length),true⟩
theorem Nc {l:YD} {i:Nat} {x:Z} {j:Nat} (hj:j<l.length):aa (gT (oA l) i [aV x] j) (oA (l.set i x) j):=by
 refine aa.of_eq ?_
 rw [dE]
 simp only [oA,ZC,YH,a9x]
 by_cases h:i=j
 ·subst h
  rw [jP,YF rfl,YF hj,aNx]
  rfl
 ·rw [jK,YE h]
theorem kp (n:Nat) (l:YD) (k:Nat) (tag:Int) (hl:0<l.length∧l.length≤1000000) (hb:(aB l).length≤10000000):AC gs Tryz.prog 116 [el n l k] [.op 0 (some n) 0,.c (.int .i64 tag)]
  (fun r H'=>r=.tup 3 (fl [Xb (ab tag l k).tag (ab tag l k).body,aV (ab tag l k).raw,.c (.bool (ab tag l k).is)])∧H'=[el n (ab tag l k).l (ab tag l k).k]):=by
 have hnb:=ek (aB l)
 refine aj 67 Tryz.func116 fun al w0 F0 St0=>?_;refine dP ?_
 refine au (cl (n:=2) gy rfl fun p1=>?_)
 refine U 7511 ?_;refine bv 0 rfl fun gl=>?_;refine U 5500000501004016 ?_;refine ap (fun h185=>?_) fun h185=>?_
 ·refine jE (cE n k l 0 2 rfl rfl rfl (cO rfl) I (YG _) (fun _ _=>I)) ?_
  dsimp only [List.set_cons_zero,List.set_cons_succ,List.cons_append,List.nil_append,List.length_cons,List.length_nil,Nat.zero_add,Nat.reduceAdd]
  refine dP ?_;refine jq (ai (n:=2) rfl gy qK rfl rfl) ?_
  refine aq (aA 2 ?_)
  refine U 30007000511 ?_
  have hN:ab tag l k=⟨l,k,0,[],[],false⟩:=by unfold ab;rw [jP]
  rw [hN]
  refine aJ (.inl rfl) rfl (il rfl (bD 2) bJ bJ) ?_
  exact aa.tup3 (aa.agg2 I cN) cN I
 refine U 810 ?_
 obtain rfl:k=0:=by omega
 refine jE (cE n 0 l 0 2 rfl rfl rfl (cO rfl) I (YG _) (fun _ _=>I)) ?_
 dsimp only [List.set_cons_zero,List.set_cons_succ,List.cons_append,List.nil_append,List.length_cons,List.length_nil,Nat.zero_add,Nat.reduceAdd]
 refine U 16 ?_
 refine aq (aQ 0 (wL n l 0 hl) ?_)
 refine au (ar (A8 (aB l) hb) ?_)
 refine U 9009009001 ?_
 refine au (cl (n:=2) gy rfl fun p3=>?_)
 refine aq (aA 2 ?_)
 refine U 5150000016207511 ?_;refine ap (fun h190=>?_) fun h190=>?_
 ·refine bv 0 rfl fun gl2=>?_;refine U 1004011200 ?_
  refine aq (bo 1 (fl [.os 4 gl2 0 l.length 1,.err (af (aB l)).e]) ?_ ?_)
  ·exact oB
  refine U 84005 ?_
  first
   | refine jE (cE n (af (aB l)).e l 0 4 rfl rfl rfl (cO rfl) I (YG _) (fun _ _=>I)) ?_
   | refine jE (cE n 5 l 0 4 rfl rfl rfl (cO rfl) I (YG _) (fun _ _=>I)) ?_
  refine dP ?_;refine jq (ai (n:=2) rfl gy qK rfl rfl) ?_
  refine aq (aA 2 ?_)
  refine U 7000511 ?_
  first
   |(have hN:ab tag l 0=⟨l,(af (aB l)).e,0,[],[],false⟩:=by unfold ab;rw [jK,jP])
   |(have hN:ab tag l 0=⟨l,5,0,[],[],false⟩:=by unfold ab;rw [jK,jK,jP])
  rw [hN]
  refine aJ (.inl rfl) rfl (il rfl (bD 2) bJ bJ) ?_
  exact aa.tup3 (aa.agg2 I cN) cN I
 refine U 1216 ?_;refine aK 56 (fun g192=>?_) fun g192=>?_
 rotate_left
 ·refine U 16300515004444 ?_
  refine aq (aQ 0 (wL n l 0 hl) ?_)
  refine U 751 ?_;refine bv 0 rfl fun gl2=>?_;refine lM 12 (.rd 0 (.rd 1 (.rd 2 (.rd 3 (.rd 4 (.rd 5 (.rd 6 (.rd 7 (.rd 8 (.rd 9 (.rd 10 (.rd 11 .done)))))))))))) ?_;refine U 703000020000100009000005000070100009000005000070 ?_;refine aM (dU (i:=(l.length-1)) (hz:=by omega)) ?_;refine xP ?_
  show cJ _ _ _ _ _ _
  refine aq (bo 1 (oA (l.set (l.length-1) (af (aB l)).rest)) ?_ ?_)
  ·exact (fun j hj=>Nc hj)
  refine U 785 ?_;refine jE (cE n 0 (l.set (l.length-1) (af (aB l)).rest) 0 4 rfl rfl rfl (cO (by simp)) I (by simp) (fun _ _=>I)) ?_
  dsimp only [List.set_cons_zero,List.set_cons_succ,List.cons_append,List.nil_append,List.length_cons,List.length_nil,Nat.zero_add,Nat.reduceAdd]
  refine jE (freeze 3 rfl) ?_;refine jE (lD 7 (m:=2) rfl rfl jD) ?_;refine lL (.rd 0 (.rd 1 (.rd 2 (.rd 3 (.rd 4 (.rd 5 (.rd 6 (.rd 7 (.one 8 (.rd 9 (.rd 10 .done))))))))))) ?_;refine iX (mn 2) ?_;refine U 400000400000 ?_;refine iX UJ ?_;refine iX UI ?_;refine iX UJ ?_;refine iX Nu ?_;refine iX w9 ?_
  refine lK (aA 2 ?_)
  refine U 3000500070008700000400000400000 ?_
  have hN:ab tag l 0=⟨l.set (l.length-1) (af (aB l)).rest,0,(af (aB l)).tag,(af (aB l)).body,(aB l).take ((aB l).length-(af (aB l)).rest.length),true⟩:=by unfold ab;rw [jK,jK,jK]
  rw [hN]
  refine aJ (.inl rfl) rfl (il rfl (bD 2) bJ bJ) ?_
  exact aa.tup3 (aa.agg2 I I) (aa.bs (by congr 1;omega)) I
 refine U 51100000000215090 ?_;refine ap (fun h192=>?_) fun h192=>?_
 ·refine bv 0 rfl fun gl2=>?_;refine U 1200 ?_;refine jq (cK 4) ?_;refine U 10040 ?_
  refine aq (bo 1 (fl [.os 4 gl2 0 l.length 1,.err 5]) ?_ ?_)
  ·exact oB
  refine U 84005 ?_
  first
   | refine jE (cE n (af (aB l)).e l 0 4 rfl rfl rfl (cO rfl) I (YG _) (fun _ _=>I)) ?_
   | refine jE (cE n 5 l 0 4 rfl rfl rfl (cO rfl) I (YG _) (fun _ _=>I)) ?_
  refine dP ?_;refine jq (ai (n:=2) rfl gy qK rfl rfl) ?_
  refine aq (aA 2 ?_)
  refine U 7000511 ?_
  first
   |(have hN:ab tag l 0=⟨l,(af (aB l)).e,0,[],[],false⟩:=by unfold ab;rw [jK,jP])
   |(have hN:ab tag l 0=⟨l,5,0,[],[],false⟩:=by unfold ab;rw [jK,jK,jP])
  rw [hN]
  refine aJ (.inl rfl) rfl (il rfl (bD 2) bJ bJ) ?_
  exact aa.tup3 (aa.agg2 I cN) cN I
 refine U 16 ?_
 refine aq (aQ 0 (wL n l 0 hl) ?_)
 refine U 751 ?_;refine bv 0 rfl fun gl2=>?_;refine lM 12 (.rd 0 (.rd 1 (.rd 2 (.rd 3 (.rd 4 (.rd 5 (.rd 6 (.rd 7 (.rd 8 (.rd 9 (.rd 10 (.rd 11 .done)))))))))))) ?_;refine U 703000020000100009000005000070100009000005000070 ?_;refine aM (dU (i:=(l.length-1)) (hz:=by omega)) ?_;refine xP ?_
 show cJ _ _ _ _ _ _
 refine aq (bo 1 (oA (l.set (l.length-1) (af (aB l)).rest)) ?_ ?_)
 ·exact (fun j hj=>Nc hj)
 refine U 785 ?_;refine jE (cE n 0 (l.set (l.length-1) (af (aB l)).rest) 0 4 rfl rfl rfl (cO (by simp)) I (by simp) (fun _ _=>I)) ?_
 dsimp only [List.set_cons_zero,List.set_cons_succ,List.cons_append,List.nil_append,List.length_cons,List.length_nil,Nat.zero_add,Nat.reduceAdd]
 refine jE (freeze 3 rfl) ?_;refine jE (lD 7 (m:=2) rfl rfl jD) ?_;refine lL (.rd 0 (.rd 1 (.rd 2 (.rd 3 (.rd 4 (.rd 5 (.rd 6 (.rd 7 (.one 8 (.rd 9 (.rd 10 .done))))))))))) ?_;refine iX (mn 2) ?_;refine U 400000400000 ?_;refine iX UJ ?_;refine iX UI ?_;refine iX UJ ?_;refine iX Nu ?_;refine iX w9 ?_
 refine lK (aA 2 ?_)
 refine U 3000500070008700000400000400000 ?_
 have hN:ab tag l 0=⟨l.set (l.length-1) (af (aB l)).rest,0,(af (aB l)).tag,(af (aB l)).body,(aB l).take ((aB l).length-(af (aB l)).rest.length),true⟩:=by unfold ab;rw [jK,jK,jK]
 rw [hN]
 refine aJ (.inl rfl) rfl (il rfl (bD 2) bJ bJ) ?_
 exact aa.tup3 (aa.agg2 I I) (aa.bs (by congr 1;omega)) I
end
end Am
end Go.Proofs.YtghminnpfnkbjaaGreatDoor
