/-
  The program logic of the walks, in one text. No program is named here. By an AI agent; no person has read it.
-/
import Derived.WalkKit
import Derived.Orders
import Derived.OrdersHeld
set_option linter.unusedVariables false
set_option linter.unusedSimpArgs false
section
namespace Go.Aw
open Go
theorem zXc {p:Prop}(h:p:=by refine Ka hT2 (List.nil_sublist _) ze rfl ?_;refine qbg ?_;refine J1 ?_;exact Jt (⟨b21,b26,b29,b5⟩,⟨(r2,k2),⟨g2,g2'⟩,hk2,he2⟩) zm zg zq (List.Sublist.refl _) zqb):p:=h
theorem zYc {p:Prop}(h:p:=by (iterate 14 refine qap ?_);refine Xbu ?_;refine K3 rfl ?_;refine qae ?_;refine Yaa ?_;refine Xaz ?_;refine q_r (L':=L) (R':=R) zOc ?_;(have he:confirmE s c.l fl.l r p t=19:=by rw [confirmE,if_neg hc0,if_neg za,if_pos zS]);exact ⟨by rw [Ve he za,he],rfl,rfl⟩):p:=h
theorem zZc {p:Prop}(h:p:=by intro hg4;replace hg4:=qb hg4;refine Xa1 ?_;exact qai):p:=h
theorem zad {p:Prop}(h:p:=by refine qbp ?_;refine Xdm ?_;refine Umc ?_;refine J1 (Jb (Uo (J3 (J7 ?_))));refine q_r (L':=L) (R':=R) zMc ?_;(have hpf:Zv l.l (n + 1) i=if x.left=0∧x.right=0∧0≤x.cond∧x.cond < 64 then some (i,1) else none:=by rw [Zv,if_neg hc0,← hx,if_pos hc1]);exact U9e):p:=h
theorem zbd {p:Prop}(h:p:=by rintro v L' R' ⟨y,S,rfl,hy,hyR,rfl,rfl⟩;refine Xa4 ?_;refine Xdd ?_;refine qdb ?_;refine q_r (L':=L) (R':=S ++ R) zLc ?_;exact ⟨y,S,by rw [hdo],by rw [hdo];exact hy,hyR,rfl,rfl⟩):p:=h
theorem zcd {p:Prop}(h:p:=by intro hg8;replace hg8:=qb hg8;(have hsg:=Jw (l:=s.sensors.l) (k:=c.target.toNat) default (by (try simp at hg8);omega));refine Xbe ?_;(have htt:0≤c.target∧c.target < s.sensors.l.length:=by (try simp at hg8);omega);refine Z6e ?_;refine Xbv ?_;refine qbq ?_;exact qai):p:=h
theorem zdd {p:Prop}(h:p:=by intro hg3;replace hg3:=qb hg3;refine Xbz ?_;exact qai):p:=h
theorem zed {p:Prop}(h:p:=by refine Kx zL rfl rfl rfl rfl ?_;refine Zbe ?_;refine qcv ?_;refine qba ?_;refine Jkf ?_;rintro v L' R' ⟨rfl,rfl⟩;refine qa1 ?_;refine J1 (Jb (Jn (Jh ?_)));refine Uhc ?_;refine Xbl ?_;refine q_r (L':=q.L 3 Jp ++ ((⟨p.o,(p.l.set s.toNat ⟨x.above,x.since,t,x.closed,x.late⟩).set s.toNat ⟨x.above,x.since,t,x.closed,lt⟩⟩:OwL XSwitch).L 76 XSwitch.cells ++ L)) (R':=R) zNc ?_;exact J1f):p:=h
theorem zfd {p:Prop}(h:p:=by refine qbq ?_;exact qai):p:=h
theorem zgd {p:Prop}(h:p:=by refine Xa1 ?_;exact qai):p:=h
theorem zhd {p:Prop}(h:p:=by rw [← List.append_assoc,← List.append_assoc];exact List.Perm.append_right _ List.perm_append_comm):p:=h
theorem zid {p:Prop}(h:p:=by refine qbz ?_;exact qai):p:=h
theorem zjd {p:Prop}(h:p:=by refine Y9 zvc rfl ?_;rintro v L' R' ⟨o103,rfl,hok103,rfl,rfl⟩;refine qaa ?_;refine Kqf ?_;refine qbm ?_;refine qak ?_;refine Xcq ?_;refine q_r (L':=(⟨o103,l.l⟩:OwL Int).L 5 Zw ++ (out.L 118 XFrame.cells ++ L)) (R':=S) (Ug rfl zhb zAc) ?_;exact U2f):p:=h
theorem zkd {p:Prop}(h:p:=by (iterate 3 refine qbs ?_);refine qad ?_;refine Xbn ?_;refine qam ?_;(iterate 3 refine qaa ?_);refine Jx zkc rfl ?_;refine qar ?_;refine qah ?_;refine qad ?_;refine Xbn ?_;refine qdb ?_;refine q_r (L':=L) (R':=R) zMc ?_;exact Umf):p:=h
theorem zld {p:Prop}(h:p:=by refine qa8 ?_;refine Xam ?_;refine q_l rfl zZb ?_;refine qaq ?_;intro b9;refine Xa0 ?_;refine Xbe ?_;refine Xdn ?_;refine J6 (Jb (Jh ?_));refine Xbe ?_;refine Xdn ?_;refine Xa8 ?_;exact q_k ⟨k + 1,by omega⟩):p:=h
theorem zmd {p:Prop}(h:p:=by exact ⟨0,by rw [he],fun h=>by omega,rfl,Jc _⟩):p:=h
theorem znd {p:Prop}(h:p:=by refine Xb0 ?_;exact qai):p:=h
theorem zod {p:Prop}(h:p:=by refine qad ?_;refine Xa8 ?_;exact Kf ⟨k + 1,by omega⟩ zm zra zi zqb zx):p:=h
theorem zpd {p:Prop}(h:p:=by exact ⟨rfl,rfl,rfl⟩):p:=h
theorem zqd {p:Prop}(h:p:=by intro hg5;replace hg5:=qb hg5;refine Xco ?_;exact qai):p:=h
theorem zrd {p:Prop}(h:p:=by refine K8 (Kq (Uf (Kc ?_)));exact Jyc ⟨(bad,good,_),by dsimp only;omega,hbf,hbr,fun h=>by first | (exfalso;have h':good < Z9a up start:=h;omega) | simpa using hc2⟩ zLa zg zi zqb):p:=h
theorem zsd {p:Prop}(h:p:=by rintro v L' R' ⟨p,S,rfl,hpk,hpl,rfl,rfl⟩;refine Xa4 ?_;refine qc4 ?_;refine Xah ?_;refine q_r (L':=p.L 3 Jp ++ L) (R':=S ++ R) zPc ?_;exact ⟨p,S,rfl,hpk,hpl,rfl,rfl⟩):p:=h
theorem ztd {p:Prop}(h:p:=by refine Xbw ?_;refine q_i (L':=L) (R':=Yla n.pipes :: Via n.at_ :: (S ++ R)) ?_;exact Ype):p:=h
theorem zud {p:Prop}(h:p:=by (obtain rfl:k=l.l.length:=by omega);refine Xdi ?_;refine Xah ?_;refine q_i (L':=L) (R':=R) ?_;exact ⟨by rw [List.take_of_length_le (Nat.le_refl _)],rfl,rfl⟩):p:=h
theorem zvd {p:Prop}(h:p:=by refine qay ?_;refine qab ?_;refine Yze ?_;refine Xbj ?_;refine J6 (Ji (Jb (Jn (Jh ?_))));refine Uic ?_;refine Xbl ?_;refine q_r (L':=L) (R':=R) zNc ?_;exact Vbf):p:=h
theorem zwd {p:Prop}(h:p:=by rintro v L' R' ⟨r,rfl,hr,rfl,rfl⟩;refine qbz ?_;refine Xba ?_;refine q_b (L':=L) (R':=R) ?_;exact ⟨congrArg Value.bool (decide_eq_decide.2 hr),rfl,rfl⟩):p:=h
theorem zxd {p:Prop}(h:p:=by rintro v L' R' ⟨z,ok,y',rfl,hF,rfl,rfl⟩;refine Xa4 ?_;refine qad ?_;refine Xba ?_;refine q_r (L':=L) (R':=R) zTc ?_;exact ⟨z,ok,rfl,hF,rfl,rfl⟩):p:=h
theorem zyd {p:Prop}(h:p:=by refine qaj ?_;exact qai):p:=h
theorem zzd {p:Prop}(h:p:=by refine K8 (Kq (Kc (Jb (Jh ?_))));refine Xci ?_;exact q_k ⟨(z - 1,(la,op),sw),by dsimp only;omega,by dsimp only;rw [hsu,if_neg zRa],hlk,hok2⟩):p:=h
theorem zAd {p:Prop}(h:p:=by refine Xa5 ?_;refine q_i (L':=[cblk c x k]) (R':=R) ?_;exact ⟨0,k,rfl,by omega,fun _=>by omega,fun _=>rfl,hk,fun _=>⟨rfl,rfl⟩,rfl,rfl⟩):p:=h
theorem zBd {p:Prop}(h:p:=by intro hg4;replace hg4:=qb hg4;refine Xbm ?_;exact qai):p:=h
theorem zCd {p:Prop}(h:p:=by refine q_r (L':=L) (R':=R) zUc ?_;(have he:U7 S.l f.tele t=6:=by rw [U7,if_neg hE1,hadr,if_neg hE2,if_neg za,if_pos za]);exact Y8d):p:=h
theorem zDd {p:Prop}(h:p:=by obtain ⟨y,hy,rfl⟩:=List.mem_map.1 hx;obtain ⟨p,hp,rfl⟩:=List.mem_map.1 hy;exact (hS2 p hp).mono fun r h=>Ja (by simp [h])):p:=h
theorem zEd {p:Prop}(h:p:=by refine J5 (Ji (Jb (Jn (Jh ?_))));refine qad ?_;refine qad ?_;refine Xba ?_;refine q_r (L':=L) (R':=R) zMc ?_;exact Vqf):p:=h
theorem zFd {p:Prop}(h:p:=by exact h2.mono fun v L'' R' ⟨L',e,⟨a1,a2⟩,a3⟩=>⟨a1,by rw [← a2,List.append_nil] at e;exact e,a3⟩):p:=h
theorem zGd {p:Prop}(h:p:=by refine qad ?_;refine J6 (Ji ?_);exact qc0):p:=h
theorem zHd {p:Prop}(h:p:=by refine Xa3 ?_;refine Jx (Y2d rfl rfl (Kcf za)) rfl ?_;refine qad ?_;refine qcs ?_;refine Xci ?_;exact Jnf):p:=h
theorem zId {p:Prop}(h:p:=by refine Xax ?_;exact q_k ⟨k0 + 1,Yz hp0 za (by first | exact Y0b hp za za | exact Jbc hp za za hq za)⟩):p:=h
theorem zJd {p:Prop}(h:p:=by refine J5 (Ji (Jb (Jn (Jh ?_))));refine Uic ?_;refine Xbl ?_;refine q_r (L':=L) (R':=R) zNc ?_;exact Jof):p:=h
theorem zKd {p:Prop}(h:p:=by rw [List.getElem?_map] at hx;obtain ⟨p,hp,rfl⟩:=Option.map_eq_some_iff.1 hx;exact (hG.ok v p hp).2):p:=h
theorem zLd {p:Prop}(h:p:=by refine Jj [8] hT2 (List.nil_sublist _) ze ?_;refine qca ?_;refine Uw ?_;rintro v L' R' ⟨b26,rfl,rfl,hR26⟩;(replace hR26:=hR26.symm;subst hR26);refine qa1 ?_;refine Ua ?_;exact zXc):p:=h
theorem zMd {p:Prop}(h:p:=by refine qa1 ?_;refine Ua ?_;refine Jj [13] hT2 (List.nil_sublist _) ze ?_;refine qca ?_;refine Kt rfl zxb rfl rfl ?_;rintro v L' R' ⟨b5,rfl,rfl,hR5⟩;(replace hR5:=hR5.symm;subst hR5);refine qa1 ?_;exact zXc):p:=h
theorem zNd {p:Prop}(h:p:=by refine qa1 ?_;refine Jj [11] hT2 (List.nil_sublist _) ze ?_;refine qca ?_;refine Yd ?_;rintro v L' R' ⟨b29,rfl,rfl,hR29⟩;(replace hR29:=hR29.symm;subst hR29);refine qa1 ?_;refine Ua ?_;exact zXc):p:=h
theorem zOd {p:Prop}(h:p:=by refine qa1 ?_;refine Jj [3] hT2 (List.nil_sublist _) ze ?_;refine qca ?_;refine Yh ?_;rintro v L' R' ⟨b21,rfl,rfl,hR21⟩;(replace hR21:=hR21.symm;subst hR21);refine qa1 ?_;refine Ua ?_;exact zXc):p:=h
theorem zPd {p:Prop}(h:p:=by (have hbt:b=true:=by cases b with | true=>rfl | false=>simp at hc5);have hmb:=(Kpa _ _ _ _ (hP.yes hbt)).1;rw [hP.yes hbt] at hpf;dsimp only at hpf;(rw [if_pos (by rw [hbt] at hc5;simp at hc5;omega)] at hpf);refine qbv ?_;refine Xau ?_;refine qa9 ?_;refine Js rfl (ih (m - 1) _ za za za) rfl ?_;rintro v L' R' ⟨f,q,b2,rfl,hP2,rfl,rfl⟩;have hPb2:=hP2.bnd;refine Jx zDb rfl ?_;exact zkd):p:=h
theorem zQd {p:Prop}(h:p:=by have hx:=Jw (l:=p.fans.l) (k:=k) default za;have hdb:=Upa hp hq k za;have hfo:=hp.fan _ _ hx;have hsb:=Usa hfo (p.fans.l.getD k default).state q;refine qbb ?_;refine qa3 ?_;refine qdw ?_;refine qaq ?_;intro b8;refine Xa0 ?_;refine qab ?_;exact zld):p:=h
theorem zRd {p:Prop}(h:p:=by intro hg3;replace hg3:=qb hg3;refine qaa ?_;refine Xac ?_;exact zid):p:=h
theorem zSd {p:Prop}(h:p:=by intro hg15;replace hg15:=qb hg15;(have hbt:b=true:=by cases b with | true=>rfl | false=>simp at hg15);have hmb:=(Kpa _ _ _ _ (hP.yes hbt)).1;refine Xam ?_;refine qa9 ?_;exact zfd):p:=h
theorem zTd {p:Prop}(h:p:=by (iterate 3 refine qap ?_);refine Xbf ?_;(iterate 4 refine qap ?_);refine Xbf ?_;exact zYc):p:=h
theorem zUd {p:Prop}(h:p:=by intro hg9;replace hg9:=qb hg9;exact znd):p:=h
theorem zVd {p:Prop}(h:p:=by (obtain rfl:k=p.fans.l.length:=by omega);refine qbk ?_;refine Xdc ?_;refine q_r (L':=L) (R':=R) zBc ?_;exact zpd):p:=h
theorem zWd {p:Prop}(h:p:=by intro hg14;replace hg14:=qb hg14;exact zgd):p:=h
theorem zXd {p:Prop}(h:p:=by (obtain rfl:k=x.l.length:=by omega);refine Xdi ?_;refine Xah ?_;refine q_i (L':=L) (R':=R) ?_;exact zpd):p:=h
theorem zYd {p:Prop}(h:p:=by refine qa1 ?_;refine Jj [5] hT2 (List.nil_sublist _) ze ?_;refine qca ?_;refine Yta ?_;rintro v L' R' ⟨r2,k2,rfl,g2,g2',hk2,he2,rfl,rfl⟩;refine ⟨zi,zw,?_⟩;refine Yva ?_;refine Yua ?_;exact zLd):p:=h
theorem zZd {p:Prop}(h:p:=by refine qca ?_;refine Kt rfl zxb rfl rfl ?_;rintro v L' R' ⟨b5,rfl,rfl,hR5⟩;(replace hR5:=hR5.symm;subst hR5);refine qa1 ?_;exact zLd):p:=h
theorem zae {p:Prop}(h:p:=by refine qca ?_;refine Yd ?_;rintro v L' R' ⟨b29,rfl,rfl,hR29⟩;(replace hR29:=hR29.symm;subst hR29);refine qa1 ?_;exact zLd):p:=h
theorem zbe {p:Prop}(h:p:=by refine Yh ?_;rintro v L' R' ⟨b21,rfl,rfl,hR21⟩;(replace hR21:=hR21.symm;subst hR21);refine qa1 ?_;exact zLd):p:=h
theorem zce {p:Prop}(h:p:=by refine qca ?_;refine Uw ?_;rintro v L' R' ⟨b26,rfl,rfl,hR26⟩;(replace hR26:=hR26.symm;subst hR26);exact zOd):p:=h
theorem zde {p:Prop}(h:p:=by refine Uw ?_;rintro v L' R' ⟨b26,rfl,rfl,hR26⟩;(replace hR26:=hR26.symm;subst hR26);exact zMd):p:=h
theorem zee {p:Prop}(h:p:=by refine Uw ?_;rintro v L' R' ⟨b26,rfl,rfl,hR26⟩;(replace hR26:=hR26.symm;subst hR26);exact zNd):p:=h
theorem zfe {p:Prop}(h:p:=by refine qca ?_;refine Kt rfl zxb rfl rfl ?_;rintro v L' R' ⟨b5,rfl,rfl,hR5⟩;(replace hR5:=hR5.symm;subst hR5);exact zNd):p:=h
theorem zge {p:Prop}(h:p:=by refine qca ?_;refine Kt rfl zxb rfl rfl ?_;rintro v L' R' ⟨b5,rfl,rfl,hR5⟩;(replace hR5:=hR5.symm;subst hR5);exact zOd):p:=h
theorem zhe {p:Prop}(h:p:=by refine qca ?_;refine Yd ?_;rintro v L' R' ⟨b29,rfl,rfl,hR29⟩;(replace hR29:=hR29.symm;subst hR29);exact zOd):p:=h
theorem zie {p:Prop}(h:p:=by refine Yd ?_;rintro v L' R' ⟨b29,rfl,rfl,hR29⟩;(replace hR29:=hR29.symm;subst hR29);exact zMd):p:=h
theorem zje {p:Prop}(h:p:=by refine Yh ?_;rintro v L' R' ⟨b21,rfl,rfl,hR21⟩;(replace hR21:=hR21.symm;subst hR21);exact zMd):p:=h
theorem zke {p:Prop}(h:p:=by refine Yh ?_;rintro v L' R' ⟨b21,rfl,rfl,hR21⟩;(replace hR21:=hR21.symm;subst hR21);exact zNd):p:=h
theorem zle {p:Prop}(h:p:=by refine qca ?_;refine Kt rfl zxb rfl rfl ?_;rintro v L' R' ⟨b5,rfl,rfl,hR5⟩;(replace hR5:=hR5.symm;subst hR5);exact zYd):p:=h
theorem zme {p:Prop}(h:p:=by refine qca ?_;refine Yd ?_;rintro v L' R' ⟨b29,rfl,rfl,hR29⟩;(replace hR29:=hR29.symm;subst hR29);exact zYd):p:=h
theorem zdb {p:Prop}(h:p:=by exact show _=Value.bool _ from rfl):p:=h
theorem zeb {p:Prop}(h:p:=by exact show _=Value.int _ _ from rfl):p:=h
theorem zfb {p:Prop}(h:p:=by exact show _=Value.slice _ _ _ from rfl):p:=h
theorem zgb {p:Prop}(h:p:=by exact Jm (row:=[_,_,_,_,_,_,_,_,_,_,_,_,_,_,_,_,_,_,_,_,_,_,_]) tb rfl rfl rfl zf zb zb):p:=h
theorem zhb {p:Prop}(h:p:=by exact Jm (row:=[_,_]) tb rfl rfl rfl zf zb zb):p:=h
theorem zib {p:Prop}(h:p:=by exact Jm (row:=[_,_,_]) tb rfl rfl rfl zf zb zb):p:=h
theorem zjb {p:Prop}(h:p:=by exact Jl (row:=[_,_,_,_,_,_,_,_,_,_,_,_,_,_,_,_,_,_,_,_,_,_,_]) tb rfl rfl rfl zf zb zb):p:=h
theorem zkb {p:Prop}(h:p:=by exact Jl (row:=[_,_,_]) tb rfl rfl rfl zf zb zb):p:=h
theorem zlb {p:Prop}(h:p:=by exact Jm (row:=[_,_,_,_,_]) tb rfl rfl rfl zf zb zb):p:=h
theorem zmb {p:Prop}(h:p:=by exact Jl (row:=[_,_,_,_,_,_,_,_]) tb rfl rfl rfl zf zb zb):p:=h
theorem znb {p:Prop}(h:p:=by exact Jv (qs:=[(0,(Value.int _ _).cells.toList),(1,(Value.int _ _).cells.toList)]) (out:=[_,_]) tb rfl rfl rfl rfl rfl rfl rfl):p:=h
theorem zob {p:Prop}(h:p:=by exact Jl (row:=[_,_,_,_,_]) tb rfl rfl rfl zf zb zb):p:=h
theorem zpb {p:Prop}(h:p:=by exact Ja (.head _)):p:=h
theorem zqb {p:Prop}(h:p:=by exact Jc _):p:=h
theorem zrb {p:Prop}(h:p:=by exact Jm (row:=[_,_,_,_]) tb rfl rfl rfl zf zb zb):p:=h
theorem zsb {p:Prop}(h:p:=by exact Kz zf rfl rfl):p:=h
theorem ztb {p:Prop}(h:p:=by exact Zn tb rfl rfl rfl):p:=h
theorem zub {p:Prop}(h:p:=by exact Kk tb (p) rfl rfl rfl zj zh (fun _=>rfl) zh zb):p:=h
theorem zvb {p:Prop}(h:p:=by exact Jv (qs:=[(0,(Value.agg _).cells.toList)]) (out:=[_,_,_,_]) tb rfl rfl rfl rfl rfl rfl rfl):p:=h
theorem zwb {p:Prop}(h:p:=by exact Jv (qs:=[(0,(Value.agg _).cells.toList)]) (out:=[_,_,_]) tb rfl rfl rfl rfl rfl rfl rfl):p:=h
theorem zxb {p:Prop}(h:p:=by exact J4 tb rfl):p:=h
theorem zyb {p:Prop}(h:p:=by exact Kb (qs:=[(0,(Value.slice _ _ _).cells.toList),(1,(Value.slice _ _ _).cells.toList)]) (out:=[_,_]) tb rfl rfl rfl rfl):p:=h
theorem zzb {p:Prop}(h:p:=by exact U6 tb rfl rfl rfl):p:=h
theorem zAb {p:Prop}(h:p:=by exact Kb (qs:=[(0,(Value.int _ _).cells.toList),(1,(Value.int _ _).cells.toList)]) (out:=[_,_]) tb rfl rfl rfl rfl):p:=h
theorem zBb {p:Prop}(h:p:=by exact Jqa c.target (s.sensors.l.length:Int) _ _):p:=h
theorem zCb {p:Prop}(h:p:=by exact Kb (qs:=[(0,(Value.agg _).cells.toList),(1,(Value.slice _ _ _).cells.toList),(2,(Value.slice _ _ _).cells.toList),(4,(Value.slice _ _ _).cells.toList)]) (out:=[_,_,_,_,_,_,_,_]) tb rfl rfl rfl rfl):p:=h
theorem zDb {p:Prop}(h:p:=by exact Jy rfl):p:=h
theorem zEb {p:Prop}(h:p:=by exact Jl (row:=[_,_]) tb rfl rfl rfl zf zb zb):p:=h
theorem zFb {p:Prop}(h:p:=by exact Jv (qs:=[(0,(Value.agg _).cells.toList)]) (out:=[_,_,_,_,_]) tb rfl rfl rfl rfl rfl rfl rfl):p:=h
theorem zGb {p:Prop}(h:p:=by exact show _=Value.pointer _ from rfl):p:=h
theorem zHb {p:Prop}(h:p:=by exact Kb (qs:=[]) (out:=[_,_,_]) tb rfl rfl rfl rfl):p:=h
theorem zIb {p:Prop}(h:p:=by exact Jz rfl):p:=h
theorem zJb {p:Prop}(h:p:=by exact Jv (qs:=[(0,(Value.int _ _).cells.toList)]) (out:=[_]) tb rfl rfl rfl rfl rfl rfl rfl):p:=h
theorem zKb {p:Prop}(h:p:=by exact K0 tb rfl rfl rfl zf zb):p:=h
theorem zLb {p:Prop}(h:p:=by exact Kb (qs:=[(0,(Value.int _ _).cells.toList),(1,(Value.int _ _).cells.toList),(2,(Value.slice _ _ _).cells.toList)]) (out:=[_,_,_]) tb rfl rfl rfl rfl):p:=h
theorem zMb {p:Prop}(h:p:=by exact Ja (.tail _ (.head _))):p:=h
theorem zNb {p:Prop}(h:p:=by exact K4 rfl rfl):p:=h
theorem zOb {p:Prop}(h:p:=by exact Ju tb ((⟨pc.o,cl⟩:OwL XCut)) _ rfl rfl rfl rfl zh (i:=k4) zk zu):p:=h
theorem zPb {p:Prop}(h:p:=by exact Jv (qs:=[(0,(Value.agg _).cells.toList),(1,(Value.agg _).cells.toList)]) (out:=[_,_,_,_]) tb rfl rfl rfl rfl rfl rfl rfl):p:=h
theorem zQb {p:Prop}(h:p:=by exact Zm tb rfl rfl rfl rfl rfl rfl rfl za za):p:=h
theorem zRb {p:Prop}(h:p:=by exact K6a rfl rfl):p:=h
theorem zSb {p:Prop}(h:p:=by exact Kb (qs:=[(0,(Value.bool _).cells.toList),(1,(Value.int _ _).cells.toList)]) (out:=[_,_,_]) tb rfl rfl rfl rfl):p:=h
theorem zTb {p:Prop}(h:p:=by exact Y8 x _ _ (.of hI hx) hR):p:=h
theorem zUb {p:Prop}(h:p:=by exact Y3 (f:=blc) (x:=false) rfl _):p:=h
theorem zVb {p:Prop}(h:p:=by exact show Kw s=Kw s' from h):p:=h
theorem zWb {p:Prop}(h:p:=by exact Ub c.level _ _):p:=h
theorem zXb {p:Prop}(h:p:=by exact Ju tb (p) _ rfl rfl rfl rfl zh (i:=s.toNat) zk zu):p:=h
theorem zYb {p:Prop}(h:p:=by exact Jqa c.target (s.air.mine.roads.l.length:Int) _ _):p:=h
theorem zZb {p:Prop}(h:p:=by exact Ktd (p.fans.l.getD k default).fan (p.fans.l.getD k default).state q _ _ (hm.blow hx) hfo hq):p:=h
theorem zac {p:Prop}(h:p:=by exact Jfb (⟨s,t,h,x.dropped,pm.arr,w2,c2,f2,(Jd g p t).rest,q.arr⟩:XSta) g.air _ _ hv2 hA2):p:=h
theorem zbc {p:Prop}(h:p:=by exact Kk tb ((⟨.own b13 l.l.length [],vs⟩:OwL Int)) rfl rfl rfl zj zh (fun _=>rfl) zh zb):p:=h
theorem zcc {p:Prop}(h:p:=by exact Km (f:=XSwitch.cells) (xs:=f.switches) tb rfl rfl rfl zc rfl rfl (hsR) (fun _=>rfl) za):p:=h
theorem zdc {p:Prop}(h:p:=by exact Jl (row:=[_,_,_,_]) tb rfl rfl rfl zf zb zb):p:=h
theorem zec {p:Prop}(h:p:=by exact show _=clL b8 b5 b3 n o10 ps.l u L (ps.l.getD u.toNat 0) from by rw [clL,Yja];rfl):p:=h
theorem zfc {p:Prop}(h:p:=by exact Zma p (ps.l.getD p.road.fr.toNat 0 - ps.l.getD p.road.to.toNat 0) _ _ hpI hE.ok):p:=h
theorem zgc {p:Prop}(h:p:=by exact Vra p (ps.l.getD p.road.fr.toNat 0 - ps.l.getD p.road.to.toNat 0) _ _ hpI hE.ok):p:=h
theorem zhc {p:Prop}(h:p:=by exact Kb (qs:=[(0,(Value.int _ _).cells.toList)]) (out:=[_,_,_,_]) tb rfl rfl rfl rfl):p:=h
theorem zic {p:Prop}(h:p:=by exact Kb (qs:=[(0,(Value.agg _).cells.toList)]) (out:=[_,_,_,_]) tb rfl rfl rfl rfl):p:=h
theorem zjc {p:Prop}(h:p:=by exact show ¬ a.p.kind=3 from hc3):p:=h
theorem zkc {p:Prop}(h:p:=by exact U2a rfl rfl):p:=h
theorem zlc {p:Prop}(h:p:=by exact Jlb rfl rfl):p:=h
theorem zmc {p:Prop}(h:p:=by exact Kb (qs:=[(1,(Value.bool _).cells.toList)]) (out:=[_,_]) tb rfl rfl rfl rfl):p:=h
theorem znc {p:Prop}(h:p:=by exact Kb (qs:=[(0,(Value.int _ _).cells.toList)]) (out:=[_]) tb rfl rfl rfl rfl):p:=h
theorem zoc {p:Prop}(h:p:=by exact Jk tb rfl rfl rfl rfl (i:=(a.mine.roads.l.getD k default).fr.toNat) zk za):p:=h
theorem zpc {p:Prop}(h:p:=by exact Jk tb rfl rfl rfl rfl (i:=(a.mine.roads.l.getD k default).to.toNat) zk za):p:=h
theorem zqc {p:Prop}(h:p:=by exact Km (f:=Jp) (xs:=f.zones) tb rfl rfl rfl zc rfl rfl (hzR) (fun _=>rfl) za):p:=h
theorem zrc {p:Prop}(h:p:=by exact Jk tb rfl rfl rfl rfl (i:=(a.fans.l.getD k default).road.toNat) zk za):p:=h
theorem zsc {p:Prop}(h:p:=by exact Jw default za):p:=h
theorem ztc {p:Prop}(h:p:=by exact Jk tb rfl rfl rfl rfl (i:=(m.roads.l.getD k default).fr.toNat) zk za):p:=h
theorem zuc {p:Prop}(h:p:=by exact Jk tb rfl rfl rfl rfl (i:=(m.roads.l.getD k default).to.toNat) zk za):p:=h
theorem zvc {p:Prop}(h:p:=by exact Km (f:=Zw) (xs:=l) tb rfl rfl rfl zc rfl rfl (hlR) (fun _=>rfl) za):p:=h
theorem zwc {p:Prop}(h:p:=by exact Klb rfl rfl):p:=h
theorem zxc {p:Prop}(h:p:=by exact show _=R1 by rw [hR1e]):p:=h
theorem zyc {p:Prop}(h:p:=by exact show _=R2 by rw [hR2e]):p:=h
theorem zzc {p:Prop}(h:p:=by exact Je zeb):p:=h
theorem zAc {p:Prop}(h:p:=by exact Je zfb):p:=h
theorem zBc {p:Prop}(h:p:=by exact Ya rfl zhb):p:=h
theorem zCc {p:Prop}(h:p:=by exact J4a g p (⟨s,x.time,h,x.dropped,pm.arr,w,c,f,x.rest,pl.arr⟩:XSta) pl b6 t _ _ hI hIs (hK.site.mono hS0) zpb (hK.watches.mono hS0) (hK.cuts.mono hS0) (hK.feeder.mono hS0) hK.kl ht):p:=h
theorem zDc {p:Prop}(h:p:=by exact Ju tb ((⟨.own b20 a.mine.roads.l.length [],l⟩:OwL XSpan)) _ rfl rfl ((show _=Value.slice _ _ _ from rfl).trans (Us hll)) rfl zh (i:=P.num.toNat) zk zu):p:=h
theorem zEc {p:Prop}(h:p:=by exact Ju tb ((⟨o26,O⟩:OwL XSpan)) _ rfl rfl ((show _=Value.slice _ _ _ from rfl).trans (by simp only [OwL.val,z1])) rfl zh (i:=s.target.toNat) zk zu):p:=h
theorem zFc {p:Prop}(h:p:=by exact Ju tb ((⟨.own b29 fl.l.length [],G⟩:OwL Bool)) _ rfl rfl ((show _=Value.slice _ _ _ from rfl).trans (Us z2)) rfl zh (i:=s.target.toNat) zk zu):p:=h
theorem zGc {p:Prop}(h:p:=by exact Ju tb ((⟨.own b13 l.l.length [],vs⟩:OwL Int)) _ rfl rfl ((show _=Value.slice _ _ _ from rfl).trans (Us hvl)) rfl zh (i:=x.left.toNat) zk zu):p:=h
theorem zHc {p:Prop}(h:p:=by exact Je zdb):p:=h
theorem zIc {p:Prop}(h:p:=by exact Ju tb ((⟨.own b13 l.l.length [],vs⟩:OwL Int)) _ rfl rfl ((show _=Value.slice _ _ _ from rfl).trans (Us hvl)) rfl zh (i:=k) zk zu):p:=h
theorem zJc {p:Prop}(h:p:=by exact Ju tb ((⟨.own b w.l.length [],vs⟩:OwL Int)) _ rfl rfl ((show _=Value.slice _ _ _ from rfl).trans (Us hvl)) rfl zh (i:=k) zk zu):p:=h
theorem zKc {p:Prop}(h:p:=by exact Jy zfb):p:=h
theorem zLc {p:Prop}(h:p:=by exact Ug rfl zgb zzc):p:=h
theorem zMc {p:Prop}(h:p:=by exact K5b rfl zzc zzc zHc):p:=h
theorem zNc {p:Prop}(h:p:=by exact Ug rfl zib zzc):p:=h
theorem zOc {p:Prop}(h:p:=by exact Ug rfl zlb zzc):p:=h
theorem zPc {p:Prop}(h:p:=by exact Ug rfl zAc zzc):p:=h
theorem zQc {p:Prop}(h:p:=by exact K5b rfl zAc zAc zzc):p:=h
theorem zRc {p:Prop}(h:p:=by exact Ug rfl zzc zzc):p:=h
theorem zSc {p:Prop}(h:p:=by exact Ya rfl zAc):p:=h
theorem zTc {p:Prop}(h:p:=by exact Ug rfl zzc zHc):p:=h
theorem zUc {p:Prop}(h:p:=by exact Ug rfl zrb zzc):p:=h
theorem zVc {p:Prop}(h:p:=by exact Ya rfl zzc):p:=h
theorem zWc {p:Prop}(h:p:=by exact Jff rfl zlb zAc zib zzc):p:=h
theorem zA {p:Prop}(h:p:=by repeat (first | apply zu0 | apply zu1 | apply zu2)):p:=h
theorem zAa {p:Prop}(h:p:=by dsimp only;rw [List.length_drop];omega):p:=h
theorem zB {p:Prop}(h:p:=by first | exact Jf tb rfl rfl rfl rfl zt (i:=k) zk za | exact Jk tb rfl rfl rfl rfl (i:=k) zk za):p:=h
theorem zBa {p:Prop}(h:p:=by rw [hR2e];exact .tail _ (.head _)):p:=h
theorem zC {p:Prop}(h:p:=by simpa using hc0):p:=h
theorem zCa {p:Prop}(h:p:=by first | exact K3c rfl rfl za za | exact Y0c rfl rfl za za | exact Vrc rfl rfl):p:=h
theorem zD {p:Prop}(h:p:=by simp;omega):p:=h
theorem zDa {p:Prop}(h:p:=by first | exact Ugb rfl rfl za za | exact Jwd rfl rfl):p:=h
theorem zE {p:Prop}(h:p:=by simp only [maxLen];omega):p:=h
theorem zEa {p:Prop}(h:p:=by first | exact Ku (row:=[_,_]) tb rfl rfl rfl zt zh zb zb | exact Jl (row:=[_,_]) tb rfl rfl rfl zf zb zb):p:=h
theorem zF {p:Prop}(h:p:=by cases h):p:=h
theorem zFa {p:Prop}(h:p:=by first | exact Jf tb rfl rfl rfl rfl zt (i:=z.toNat) zk za | exact Jk tb rfl rfl rfl rfl (i:=z.toNat) zk za):p:=h
theorem zG {p:Prop}(h:p:=by repeat (first | apply USeg.here | apply USeg.cons | apply USeg.app)):p:=h
theorem zGa {p:Prop}(h:p:=by first | exact Jf tb rfl rfl rfl rfl zt (i:=s.toNat) zk za | exact Jk tb rfl rfl rfl rfl (i:=s.toNat) zk za):p:=h
theorem zH {p:Prop}(h:p:=by simpa using hc1):p:=h
theorem zHa {p:Prop}(h:p:=by first | exact Jf tb rfl rfl rfl rfl zt (i:=k1) zk za | exact Jk tb rfl rfl rfl rfl (i:=k1) zk za):p:=h
theorem zI {p:Prop}(h:p:=by first | (cases h;done) | (have h':=of_decide_eq_true h;omega) | (have h':=of_decide_eq_false h;omega) | omega):p:=h
theorem zIa {p:Prop}(h:p:=by first | exact Jf tb rfl rfl rfl rfl zt (i:=k2) zk za | exact Jk tb rfl rfl rfl rfl (i:=k2) zk za):p:=h
theorem zJ {p:Prop}(h:p:=by simpa using hc2):p:=h
theorem zJa {p:Prop}(h:p:=by first | exact Jf tb rfl rfl rfl rfl zt (i:=i) zk za | exact Jk tb rfl rfl rfl rfl (i:=i) zk za):p:=h
theorem zK {p:Prop}(h:p:=by repeat (first | apply Off.upd rfl | apply Off.havoc rfl | refine Off.updL (t':=havoc _ _ _) rfl ?_ | exact Off.refl)):p:=h
theorem zKa {p:Prop}(h:p:=by first | exact Jf tb rfl rfl rfl rfl zt rfl za | exact Jk tb rfl rfl rfl rfl rfl za):p:=h
theorem zL {p:Prop}(h:p:=by first | exact Vr rfl rfl | exact U9 rfl rfl | exact Uja rfl):p:=h
theorem zLa {p:Prop}(h:p:=by repeat (first | exact Off.refl | apply Off.upd rfl | apply Off.havoc rfl | apply Off.updL rfl | apply Off.left rfl | apply Off.leftu rfl)):p:=h
theorem zM {p:Prop}(h:p:=by simp only [List.length_cons] at hm;omega):p:=h
theorem zMa {p:Prop}(h:p:=by (repeat (first | apply List.Sublist.cons (a:=Blk.mk b101 _ _) | apply List.Sublist.cons_cons));exact List.Sublist.refl _):p:=h
theorem zN {p:Prop}(h:p:=by exact J9a (fun _=>rfl) zh zc):p:=h
theorem zNa {p:Prop}(h:p:=by (repeat (first | apply List.Sublist.cons (a:=Blk.mk b18 _ _) | apply List.Sublist.cons_cons));exact List.Sublist.refl _):p:=h
theorem zO {p:Prop}(h:p:=by repeat (first | exact Ula | apply Yda | apply Jqb)):p:=h
theorem zOa {p:Prop}(h:p:=by dsimp only;first | (rw [Jsb hc0];exact List.Sublist.refl _) | (rw [Jyb hc0];exact List.Sublist.refl _)):p:=h
theorem zP {p:Prop}(h:p:=by simp only [List.length_cons] at hfu;omega):p:=h
theorem zPa {p:Prop}(h:p:=by first | (simp at hc2;rw [Zb];omega) | (simp at hg8;rw [Zb];omega)):p:=h
theorem zQ {p:Prop}(h:p:=by simpa using hc4):p:=h
theorem zQa {p:Prop}(h:p:=by simp only [List.length_cons,List.length_append] at hfu ⊢;omega):p:=h
theorem zR {p:Prop}(h:p:=by simpa using h):p:=h
theorem zRa {p:Prop}(h:p:=by rintro ⟨h1,h2⟩;first | omega | (rw [h1] at hg5;cases hg5)):p:=h
theorem zS {p:Prop}(h:p:=by rw [Zd];omega):p:=h
theorem zSa {p:Prop}(h:p:=by first | exact J6d rfl rfl za za za | exact Yed rfl rfl za za za | exact Kjd rfl rfl za):p:=h
theorem zTa {p:Prop}(h:p:=by first | exact Ku (row:=[_,_,_,_,_,_,_,_,_,_]) tb rfl rfl rfl zt zh zb zb | exact Jl (row:=[_,_,_,_,_,_,_,_,_,_]) tb rfl rfl rfl zf zb zb):p:=h
theorem zU {p:Prop}(h:p:=by dsimp only;rw [Kh,List.nil_append];exact zi):p:=h
theorem zUa {p:Prop}(h:p:=by first | exact Jf tb rfl rfl rfl rfl zt (i:=(q.l.getD k 0).toNat) zk za | exact Jk tb rfl rfl rfl rfl (i:=(q.l.getD k 0).toNat) zk za):p:=h
theorem zV {p:Prop}(h:p:=by first | exact Ku (row:=[_,_,_,_,_,_,_,_]) tb rfl rfl rfl zt zh zb zb | exact Jl (row:=[_,_,_,_,_,_,_,_]) tb rfl rfl rfl zf zb zb):p:=h
theorem zVa {p:Prop}(h:p:=by first | exact Ku (row:=[_,_,_,_,_,_]) tb rfl rfl rfl zt zh zb zb | exact Jl (row:=[_,_,_,_,_,_]) tb rfl rfl rfl zf zb zb):p:=h
theorem zW {p:Prop}(h:p:=by first | exact Jf tb rfl rfl rfl rfl zt (i:=k0) zk za | exact Jk tb rfl rfl rfl rfl (i:=k0) zk za):p:=h
theorem zWa {p:Prop}(h:p:=by first | exact Jf tb rfl rfl rfl rfl zt (i:=r.zone.toNat) zk za | exact Jk tb rfl rfl rfl rfl (i:=r.zone.toNat) zk za):p:=h
theorem zX {p:Prop}(h:p:=by rw [List.cons_append,List.append_assoc,List.cons_append];exact .tail _ hr):p:=h
theorem zXa {p:Prop}(h:p:=by first | exact Ku (row:=[_,_,_]) tb rfl rfl rfl zt zh zb zb | exact Jl (row:=[_,_,_]) tb rfl rfl rfl zf zb zb):p:=h
theorem zY {p:Prop}(h:p:=by simp only [XFrame.tele];omega):p:=h
theorem zYa {p:Prop}(h:p:=by first | exact Jf tb rfl rfl rfl rfl zt (i:=n.toNat) zk za | exact Jk tb rfl rfl rfl rfl (i:=n.toNat) zk za):p:=h
theorem zZ {p:Prop}(h:p:=by rw [hR2e];exact .head _):p:=h
theorem zZa {p:Prop}(h:p:=by first | exact Jf tb rfl rfl rfl rfl zt (i:=a.toNat) zk za | exact Jk tb rfl rfl rfl rfl (i:=a.toNat) zk za):p:=h
theorem za {p:Prop}(h:p:=by omega):p:=h
theorem zaa {p:Prop}(h:p:=by first | exact V8a | rfl):p:=h
theorem zab {p:Prop}(h:p:=by first | exact Jf tb rfl rfl rfl rfl zt (i:=p.toNat) zk za | exact Jk tb rfl rfl rfl rfl (i:=p.toNat) zk za):p:=h
theorem zb {p:Prop}(h:p:=by rfl):p:=h
theorem zba {p:Prop}(h:p:=by simp at hc0;omega):p:=h
theorem zbb {p:Prop}(h:p:=by first | exact Jf tb rfl rfl rfl rfl zt (i:=k - 1) zk za | exact Jk tb rfl rfl rfl rfl (i:=k - 1) zk za):p:=h
theorem zc {p:Prop}(h:p:=by decide):p:=h
theorem zca {p:Prop}(h:p:=by simpa using hc3):p:=h
theorem zcb {p:Prop}(h:p:=by first | exact Jf tb rfl rfl rfl rfl zt (i:=1) zk za | exact Jk tb rfl rfl rfl rfl (i:=1) zk za):p:=h
theorem zda {p:Prop}(h:p:=by simpa using h1):p:=h
theorem ze {p:Prop}(h:p:=by kernel_rfl):p:=h
theorem zea {p:Prop}(h:p:=by first | exact V6a za | rfl):p:=h
theorem zf {p:Prop}(h:p:=by repeat (first | exact zi0 | apply zi1 | apply zi2)):p:=h
theorem zfa {p:Prop}(h:p:=by first | exact Z3 tb rfl rfl rfl zt zh zb | exact K0 tb rfl rfl rfl zf zb | exact K0 tb rfl rfl rfl zf (K2a zh) | exact K0 tb rfl rfl rfl zf (Kda (fun _=>rfl) zh rfl)):p:=h
theorem zg {p:Prop}(h:p:=by repeat' (first | exact trivial | refine And.intro rfl ?_)):p:=h
theorem zga {p:Prop}(h:p:=by (repeat (first | apply List.Sublist.cons (a:=Blk.mk b12 _ _) | apply List.Sublist.cons (a:=Blk.mk b14 _ _) | apply List.Sublist.cons_cons));exact List.Sublist.refl _):p:=h
theorem zh {p:Prop}(h:p:=by assumption):p:=h
theorem zha {p:Prop}(h:p:=by (repeat (first | apply List.Sublist.cons (a:=Blk.mk b4 _ _) | apply List.Sublist.cons_cons));exact List.Sublist.refl _):p:=h
theorem zi {p:Prop}(h:p:=by repeat (first | exact zs0 _ | exact zs1 _ | apply zs2 | apply zs3 | apply zs4 | apply zs5)):p:=h
theorem zia {p:Prop}(h:p:=by dsimp only;rw [← Y3 (f:=Jp) (x:=(0:Int)) rfl];exact List.Sublist.refl _):p:=h
theorem zj {p:Prop}(h:p:=by repeat (first | apply OSeg.cons | exact OSeg.here | exact OSeg.last | exact OSeg.at zh | apply OSeg.app)):p:=h
theorem zja {p:Prop}(h:p:=by simp only [List.mem_append];exact .inr (List.mem_append.1 h)):p:=h
theorem zk {p:Prop}(h:p:=by first | rfl | omega | (simp;omega)):p:=h
theorem zka {p:Prop}(h:p:=by repeat (first | exact trivial | refine ⟨trivial,?_⟩)):p:=h
theorem zla {p:Prop}(h:p:=by simp only [List.length_cons,List.length_nil];omega):p:=h
theorem zm {p:Prop}(h:p:=by repeat (first | exact Off.refl | apply Off.upd rfl | apply Off.havoc rfl | apply Off.updL rfl | apply Off.left rfl)):p:=h
theorem zma {p:Prop}(h:p:=by rw [hR1e];exact .tail _ (.head _)):p:=h
theorem zna {p:Prop}(h:p:=by rw [List.map_toArray,ha]):p:=h
theorem zo {p:Prop}(h:p:=by simp):p:=h
theorem zoa {p:Prop}(h:p:=by rw [hR1e];exact .head _):p:=h
theorem zp {p:Prop}(h:p:=by simp only [Kh,List.nil_append];rfl):p:=h
theorem zpa {p:Prop}(h:p:=by first | exact Ksa tb rfl rfl rfl za za | exact Uqa tb rfl rfl rfl za za | exact J3a tb rfl rfl rfl):p:=h
theorem zq {p:Prop}(h:p:=by repeat (first | exact List.Perm.refl _ | refine pm0 ?_ | refine pm1 ?_ | refine pm2 ?_ | refine pm3 ?_)):p:=h
theorem zqa {p:Prop}(h:p:=by first | exact Ubb rfl rfl za za | exact Jsc rfl rfl za za | exact Y1b rfl rfl):p:=h
theorem zra {p:Prop}(h:p:=by dsimp only;rw [hst];first | exact zg | (rw [← Int.sub_eq_add_neg];exact zg)):p:=h
theorem zsa {p:Prop}(h:p:=by first | exact Ku (row:=[_,_,_,_]) tb rfl rfl rfl zt zh zb zb | exact Jl (row:=[_,_,_,_]) tb rfl rfl rfl zf zb zb):p:=h
theorem zt {p:Prop}(h:p:=by first | assumption | exact zr zo):p:=h
theorem zta {p:Prop}(h:p:=by first | exact Jf tb rfl rfl rfl rfl zt (i:=j) zk za | exact Jk tb rfl rfl rfl rfl (i:=j) zk za):p:=h
theorem zu {p:Prop}(h:p:=by first | omega | (dsimp only;omega) | (dsimp only;rw [List.length_set];omega) | (dsimp only;simp only [List.length_set];omega)):p:=h
theorem zua {p:Prop}(h:p:=by first | exact Jf tb rfl rfl rfl rfl zt (i:=0) zk za | exact Jk tb rfl rfl rfl rfl (i:=0) zk za):p:=h
theorem zva {p:Prop}(h:p:=by first | (simp only [List.nil_append];done) | (simp only [List.nil_append];rfl)):p:=h
theorem zw {p:Prop}(h:p:=by first | exact Jc _ | assumption | exact (fun r h=>Ja (by simp [h]))):p:=h
theorem zwa {p:Prop}(h:p:=by first | (simp at hc1;rw [Zb];omega) | (simp at hg6;rw [Zb];omega)):p:=h
theorem zx {p:Prop}(h:p:=by dsimp only;omega):p:=h
theorem zxa {p:Prop}(h:p:=by dsimp only;rw [Kh,List.nil_append];exact List.Sublist.refl _):p:=h
theorem zy {p:Prop}(h:p:=by first | omega | (simp only [List.length_cons,List.length_nil,List.length_append];omega)):p:=h
theorem zya {p:Prop}(h:p:=by rw [hR1e];exact .tail _ (.tail _ (.head _))):p:=h
theorem zza {p:Prop}(h:p:=by rw [hR2e];exact .tail _ (.tail _ (.head _))):p:=h
inductive BT where
  | ty (t:TypeId)
  | mp (es:Array MapEntry) (clock:Nat)
instance:Coe TypeId BT:=⟨.ty⟩
instance (n:Nat):OfNat BT n:=⟨.ty n⟩
structure Blk where
  b:Nat
  cs:List Value
  T:BT
def BT.obj (cs : List Value) : BT → Obj
  | .ty t=>.cells cs.toArray t (0,0)
  | .mp es ck=>.map es ck
inductive Sl where
  | mk (wd:Nat) (a:Option Addr) (len cap:Nat) (rows:List (List Value)) (subs:List Sl)
def adB (a:Option Addr):Nat:=match a with | some x=>x.block | none=>0
def adO (a:Option Addr):Nat:=match a with | some x=>x.off | none=>0
def eo (a:Option Addr) (wd i j:Nat):Nat:=adO a + i * wd + j
inductive Rep (w : World) (G : Nat → Prop) : Sl → Prop
  | mk {wd a len cap rows subs} (hl : rows.length = len) (hc : len ≤ cap) (hm : cap < 9223372036854775808) (hw : ∀ r ∈ rows, r.length = wd)
      (hr:rows=[]∨∃b off,a=some ⟨b,off,none⟩∧G b∧∀i j,i < len→j < wd→w.cell? ⟨b,off + i * wd + j,none⟩=(rows[i]?).bind (·[j]?))
      (hs:∀s∈subs,Rep w G s):Rep w G (.mk wd a len cap rows subs)
inductive Sub (s : Sl) : Sl → Prop
  | here:Sub s s
  | deep {wd a len cap rows subs x} (h:x∈subs) (k:Sub s x):Sub s (.mk wd a len cap rows subs)
def InR (s:Sl) (R:List Sl):Prop:=∃r∈R,Sub s r
theorem Rep.mono {w w':World} {G G':Nat→Prop} (hG:∀b,G b→G' b) (hw:∀b,G b→w'.heap[b]?=w.heap[b]?) {s:Sl} (h:Rep w G s):Rep w' G' s:=by
  induction h with
  | mk hl hc hm hw2 hr hs ih=>
    refine .mk hl hc hm hw2 ?_ ih
    rcases hr with h | ⟨b,off,ha,hb,Jkb⟩
    · exact .inl h
    · refine .inr ⟨b, off, ha, hG b hb, fun i j hi hj => ?_⟩
      rw [← Jkb i j hi hj]
      exact World.cell?_of_block (w:=w) (hw b hb)
theorem Rep.sub {w:World} {G:Nat→Prop} {s r:Sl} (h:Rep w G r) (k:Sub s r):Rep w G s:=by
  induction k with
  | here=>exact h
  | deep hx _ ih=>cases h with | mk _ _ _ _ _ hs=>exact ih (hs _ hx)
structure Holds (L:List Blk) (G:Nat→Prop) (R:List Sl) (w:World):Prop where
  nd:(L.map (·.b)).Nodup
  own:∀e∈L,w.heap[e.b]?=some (e.T.obj e.cs)
  ng:∀e∈L,¬ G e.b
  gs:∀b,G b→b < w.heap.size
  rep:∀r∈R,Rep w G r
structure Ctx where
  w0:World
  own0:Nat→Prop
  G0:Nat→Prop
structure Keep (c:Ctx) (w:World):Prop where
  os:w.os=c.w0.os
  tape:w.tape=c.w0.tape
  output:w.output=c.w0.output
  size:c.w0.heap.size≤w.heap.size
  block:∀b,b < c.w0.heap.size→¬ c.own0 b→w.heap[b]?=c.w0.heap[b]?
  frz:∀a,w.frozen? a=c.w0.frozen? a
structure St (c:Ctx) (L:List Blk) (R:List Sl) (w:World):Prop where
  G:∃G,Holds L G R w∧∀b,G b→c.G0 b∨c.w0.heap.size≤b∨c.own0 b
  own:∀e∈L,c.own0 e.b∨c.w0.heap.size≤e.b
  keep:Keep c w
def inL (L:List Blk) (b:Nat):Prop:=∃e∈L,e.b=b
theorem St.init {L:List Blk} {G:Nat→Prop} {R:List Sl} {w:World} (h:Holds L G R w):St ⟨w,inL L,G⟩ L R w:=
  ⟨⟨G,h,fun _ hb=>.inl hb⟩,fun e he=>.inl ⟨e,he,rfl⟩,⟨rfl,rfl,rfl,Nat.le_refl _,fun _ _ _=>rfl,fun _=>rfl⟩⟩
theorem Holds.lt {L G R w} (h:Holds L G R w) {e:Blk} (he:e∈L):e.b < w.heap.size:=by
  have:=h.own e he
  rcases Nat.lt_or_ge e.b w.heap.size with h' | h'
  · exact h'
  · simp [Array.getElem?_eq_none h'] at this
theorem St.trans {c : Ctx} {L L' : List Blk} {R R' : List Sl} {G : Nat → Prop} {w w' : World} (h : St c L R w)
    (hG:∀b,G b→c.G0 b∨c.w0.heap.size≤b∨c.own0 b) (k:St ⟨w,inL L,G⟩ L' R' w'):St c L' R' w':=by
  obtain ⟨⟨G',hh,hg⟩,ho,hk⟩:=k
  have inl:∀b,inL L b→c.own0 b∨c.w0.heap.size≤b:=fun b ⟨e,he,hb⟩=>hb ▸ h.own e he
  have hsz:=h.keep.size
  refine ⟨⟨G',hh,fun b hb=>?_⟩,fun e he=>?_,⟨hk.os.trans h.keep.os,hk.tape.trans h.keep.tape,hk.output.trans h.keep.output,Nat.le_trans hsz hk.size,fun b hb hn=>?_,fun a=>(hk.frz a).trans (h.keep.frz a)⟩⟩
  · rcases hg b hb with h1 | h1 | h1
    · exact hG b h1
    · exact .inr (.inl (Nat.le_trans hsz h1))
    · rcases inl b h1 with h2 | h2
      · exact .inr (.inr h2)
      · exact .inr (.inl h2)
  · rcases ho e he with h1 | h1
    · exact inl _ h1
    · exact .inr (Nat.le_trans hsz h1)
  · rw [hk.block b (Nat.lt_of_lt_of_le hb hsz) (fun hi => ?_), h.keep.block b hb hn]
    rcases inl b hi with h2 | h2
    · exact hn h2
    · exact absurd h2 (Nat.not_le.2 hb)
theorem St.weak {c:Ctx} {L L':List Blk} {R R':List Sl} {w:World} (h:St c L R w) (hL:L'.Sublist L) (hR:∀r∈R',InR r R):St c L' R' w:=by
  obtain ⟨⟨G,hh,hg⟩,ho,hk⟩:=h
  refine ⟨⟨G,⟨hh.nd.sublist (hL.map _),fun e he=>hh.own e (hL.subset he),fun e he=>hh.ng e (hL.subset he),hh.gs,fun r hr=>?_⟩,hg⟩,fun e he=>ho e (hL.subset he),hk⟩
  obtain ⟨r',hr',hs⟩:=hR r hr
  exact (hh.rep r' hr').sub hs
def ev (t : Nat → Value) : Operand → Value
  | .tmp k=>t k
  | .const v=>v
  | .global g=>.pointer (some ⟨g,0,none⟩)
  | .func f=>.func (.func f) #[] #[]
theorem Yjd {k d:Nat} (h:¬ k=d):Nat.beq k d=false:=by
  cases hb:Nat.beq k d with
  | false=>rfl
  | true=>exact absurd (Nat.eq_of_beq_eq_true hb) h
def upd (t:Nat→Value) (d:Nat) (v:Value):Nat→Value:=fun k=>bif Nat.beq k d then v else t k
def Ygb (t:Nat→Value) (d:Option Tmp) (v:Value):Nat→Value:=
  match d with
  | some d=>upd t d v
  | none=>t
def dOk (n:Nat) (d:Option Tmp):Bool:=
  match d with
  | some d=>Nat.blt d n
  | none=>true
structure Fr (n:Nat) (t:Nat→Value) (a:Act):Prop where
  defers:a.defers=[]
  size:a.tmps.size=n
  val:∀k,a.tmps.getD k undef=t k
theorem Fr.eval {n t a} (h:Fr n t a):a.eval=ev t:=by
  funext x
  cases x with
  | tmp k=>exact h.val k
  | _=>rfl
theorem Fr.put {n t a} (h:Fr n t a) {d:Option Tmp} (hd:dOk n d=true) (v:Value):Fr n (Ygb t d v) (a.put d v):=by
  cases d with
  | none=>exact h
  | some d=>
    have hlt:d < n:=by simpa [dOk] using hd
    refine ⟨h.defers,by simp [Act.put,h.size],fun k=>?_⟩
    have hv:=h.val k
    simp only [Act.put,Ygb,upd]
    by_cases hk:k=d
    · subst hk
      have:k < a.tmps.size:=by rw [h.size];exact hlt
      simp [this]
    · have : Nat.beq k d = false := Yjd hk
      rw [this,cond_false,← hv]
      simp [Array.getElem?_setIfInBounds_ne (Ne.symm hk)]
def Y6b (all:Array Oper) (t:Nat→Value) (j:Nat):Option Bool:=
  match (all[j]?).bind (·.dst) with
  | some d=>match t d with
    | .bool b=>some b
    | _=>none
  | none=>none
def V1 (all:Array Oper) (t:Nat→Value) (g:Option (Nat×Bool)):Bool:=
  match g with
  | none=>true
  | some (j,want)=>Y6b all t j == some want
theorem Fr.wanted {n t a} (h:Fr n t a) (all:Array Oper) (o:Oper):Region.wanted o (yielded all a.tmps)=V1 all t o.guard:=by
  unfold Region.wanted V1
  cases hg:o.guard with
  | none=>rfl
  | some p=>
    obtain ⟨j,want⟩:=p
    have:yielded all a.tmps j=Y6b all t j:=by
      unfold yielded Y6b
      cases hd:(all[j]?).bind (·.dst) with
      | none=>rfl
      | some d=>
        have hv:=h.val d
        simp only [Option.bind_some]
        rcases Nat.lt_or_ge d a.tmps.size with h' | h'
        · have e : a.tmps[d]? = some (t d) := by rw [← hv]; simp [h']
          rw [e]
          cases t d <;> rfl
        · have e : a.tmps[d]? = none := Array.getElem?_eq_none h'
          have e2:t d=undef:=by rw [← hv];simp [e]
          rw [e,e2]
          rfl
    simp only [this]
abbrev Kp:=Exit→(Nat→Value)→List Blk→List Sl→Prop
def NP : Exit → Prop
  | .panic _=>False
  | _=>True
def Y0a (n:Nat) (c:Ctx) (K:Kp):Exit→Act→World→Prop:=
  fun e a w=>NP e∧∃t L R,K e t L R∧Fr n t a∧St c L R w
def CJ (P:Program) (n:Nat) (code:Code) (t:Nat→Value) (L:List Blk) (R:List Sl) (Q:Kp):Prop:=
  ∀c a w,Fr n t a→St c L R w→code.wp P (Y0a n c Q) a w
def LJ (P:Program) (n:Nat) (all:Array Oper) (ops:List Oper) (t:Nat→Value) (L:List Blk) (R:List Sl) (Q:Kp):Prop:=
  ∀c a w,Fr n t a→St c L R w→wpList P all (Y0a n c Q) ops a w
abbrev Yn:=Value→List Blk→List Sl→Prop
def Tri (P:Program) (f:FuncId) (args:Array Value) (L:List Blk) (R:List Sl) (Post:Yn):Prop:=
  (∀(xs:Array Value) (w:World),(callFunc f xs).run P w=.ok (.enter f xs) w)∧
  ∀(w:World) (G:Nat→Prop),Holds L G R w→Calls P f args w fun e w'=>∃v L' R',e=.returned v∧Post v L' R'∧St ⟨w,inL L,G⟩ L' R' w'
theorem Tri.mono {P f args L R} {Post Post':Yn} (h:Tri P f args L R Post) (k:∀v L' R',Post v L' R'→Post' v L' R'):Tri P f args L R Post':=
  ⟨h.1,fun w G hh=>(h.2 w G hh).mono fun _ _ ⟨v,L',R',e,p,s⟩=>⟨v,L',R',e,k _ _ _ p,s⟩⟩
def Gives (P:Program) (op:Oper) (ρ:Operand→Value) (L:List Blk) (R:List Sl) (Post:Yn):Prop:=
  ∀(c:Ctx) (w:World),St c L R w→∀(a:Act) (next:Act→World→Prop) (Q:Exit→Act→World→Prop),
    (∀v L' R' w',Post v L' R'→St c L' R' w'→next (a.put op.dst v) w')→op.upon P a next Q ((execOp ρ op).run P w)
def YV (P:Program) (op:Oper) (ρ:Operand→Value) (L:List Blk) (R:List Sl) (v:Value):Prop:=
  ∀(c:Ctx) (w:World),St c L R w→(execOp ρ op).run P w=.ok (.value v) w
theorem YV.gives {P op ρ L R v} (h:YV P op ρ L R v):Gives P op ρ L R (fun v' L' R'=>v'=v∧L'=L∧R'=R):=by
  intro c w hs a next Q k
  rw [h c w hs]
  exact k v L R w ⟨rfl,rfl,rfl⟩ hs
theorem J6 {P n all t L R} {Q:Kp} (h:Q .normal t L R):LJ P n all [] t L R Q:=
  fun _ _ _ hf hs=>⟨trivial,t,L,R,h,hf,hs⟩
theorem Uhb {P n all o rest t L R} {Q : Kp} {Post : Yn} (hg : Gives P o (ev t) L R Post) (hw : V1 all t o.guard = true) (hd : dOk n o.dst = true)
    (h:∀v L' R',Post v L' R'→LJ P n all rest (Ygb t o.dst v) L' R' Q):LJ P n all (o :: rest) t L R Q:=by
  intro c a w hf hs
  unfold wpList
  rw [hf.wanted,hw,if_pos rfl]
  refine .inl ?_
  unfold Oper.wp
  rw [hf.eval]
  exact hg c w hs a _ _ fun v L' R' w' hp hs'=>h v L' R' hp c _ w' (hf.put hd v) hs'
theorem K6d {P n all o rest t L R} {Q : Kp} {v : Value} (hv : YV P o (ev t) L R v) (hw : V1 all t o.guard = true) (hd : dOk n o.dst = true)
    (h:LJ P n all rest (Ygb t o.dst v) L R Q):LJ P n all (o :: rest) t L R Q:=
  Uhb hv.gives hw hd fun _ _ _ ⟨e1,e2,e3⟩=>by subst e1;subst e2;subst e3;exact h
theorem Zze {P n all o rest t L R} {Q : Kp} (hw : V1 all t o.guard = false) (hd : dOk n o.dst = true)
    (h:LJ P n all rest (Ygb t o.dst undef) L R Q):LJ P n all (o :: rest) t L R Q:=by
  intro c a w hf hs
  unfold wpList
  rw [hf.wanted,hw,if_neg zo]
  exact h c _ w (hf.put hd _) hs
theorem K3a {P dst f xs ts pos after guard ty ρ L R args} {Post : Yn} (ha : xs.map ρ = args) (hρ : ρ (.func f) = .func (.func f) #[] #[])
    (h:Tri P f args L R Post):Gives P ⟨dst,.call ⟨.value (.func f),xs,ts⟩,ty,pos,after,guard⟩ ρ L R Post:=by
  intro x w hs a next Q k
  have hrun:(execOp ρ ⟨dst,.call ⟨.value (.func f),xs,ts⟩,ty,pos,after,guard⟩).run P w=.ok (.enter f args) w:=by
    have h1:=h.1 args w
    simp only [execOp,resolve,ha,hρ,Deferred.ofValue]
    simpa [invoke] using h1
  rw [hrun]
  obtain ⟨⟨G,hh,hg⟩,ho,hk⟩:=hs
  refine (h.2 w G hh).mono ?_
  rintro e w' ⟨v,L',R',rfl,hp,hst⟩
  exact k v L' R' w' hp (St.trans ⟨⟨G,hh,hg⟩,ho,hk⟩ hg hst)
theorem Jh {P n id ops t L R} {Q:Kp} (h:LJ P n ops.toArray ops t L R Q):CJ P n (.region id ops.toArray false) t L R Q:=
  fun c a w hf hs=>wp_region_lit (h c a w hf hs)
def Ui (P : Program) (n : Nat) (y : Code) (Q : Kp) : Kp
  | .normal,t,L,R=>CJ P n y t L R Q
  | e,t,L,R=>Q e t L R
theorem Jn {P n x y t L R} {Q:Kp} (h:CJ P n x t L R (Ui P n y Q)):CJ P n (.seq x y) t L R Q:=by
  intro c a w hf hs
  refine wp_seq (wp_mono (h c a w hf hs) ?_)
  rintro e a w ⟨hnp,t',L',R',hq,hf',hs'⟩
  cases e with
  | normal=>exact hq c a w hf' hs'
  | _=>exact ⟨hnp,t',L',R',hq,hf',hs'⟩
theorem Jb {P n y t L R} {Q:Kp} (h:CJ P n y t L R Q):Ui P n y Q .normal t L R:=h
theorem J7 {P n y t L R} {Q:Kp} (h:Q .ret t L R):Ui P n y Q .ret t L R:=h
theorem Kq {P n y id t L R} {Q:Kp} (h:Q (.exit id) t L R):Ui P n y Q (.exit id) t L R:=h
theorem J5 {P n t L R} {Q:Kp} (h:Q .normal t L R):CJ P n .skip t L R Q:=
  fun _ _ _ hf hs=>wp_skip ⟨trivial,t,L,R,h,hf,hs⟩
theorem Uo {P n t L R} {Q:Kp} (h:Q .ret t L R):CJ P n .ret t L R Q:=
  fun _ _ _ hf hs=>wp_ret ⟨trivial,t,L,R,h,hf,hs⟩
theorem K8 {P n id t L R} {Q:Kp} (h:Q (.exit id) t L R):CJ P n (.exit id) t L R Q:=
  fun _ _ _ hf hs=>wp_exit ⟨trivial,t,L,R,h,hf,hs⟩
theorem Zoc {P n x A B t L R} {Q:Kp} {b:Bool} (hc:ev t x=.bool b) (ht:b=true→CJ P n A t L R Q) (hf:b=false→CJ P n B t L R Q):
    CJ P n (.cond x A B) t L R Q:=
  fun c a w hfr hs=>wp_cond_split (by rw [hfr.eval];exact hc) (fun e=>ht e c a w hfr hs) (fun e=>hf e c a w hfr hs)
theorem K3 {P n x A B t L R} {Q:Kp} (hc:ev t x=.bool true) (ht:CJ P n A t L R Q):CJ P n (.cond x A B) t L R Q:=
  Zoc hc (fun _=>ht) (fun e=>by cases e)
theorem Zj {P n x A B t L R} {Q:Kp} (hc:ev t x=.bool false) (hf:CJ P n B t L R Q):CJ P n (.cond x A B) t L R Q:=
  Zoc hc (fun e=>by cases e) (fun _=>hf)
def J0 (id : Nat) (Q : Kp) : Kp
  | .exit k,t,L,R=>bif Nat.beq k id then Q .normal t L R else Q (.exit k) t L R
  | e,t,L,R=>Q e t L R
theorem Kg {P n id x t L R} {Q:Kp} (h:CJ P n x t L R (J0 id Q)):CJ P n (.block id x) t L R Q:=by
  intro c a w hf hs
  refine wp_block (wp_mono (h c a w hf hs) ?_)
  rintro e a w ⟨hnp,t',L',R',hq,hf',hs'⟩
  cases e with
  | exit k=>
    simp only [Exit.inBlock]
    by_cases hk:k=id
    · subst hk
      have:Nat.beq k k=true:=by simp
      simp only [J0,this,cond_true] at hq
      rw [if_pos rfl]
      exact ⟨trivial,t',L',R',hq,hf',hs'⟩
    · have : Nat.beq k id = false := Yjd hk
      simp only [J0,this,cond_false] at hq
      rw [if_neg hk]
      exact ⟨trivial,t',L',R',hq,hf',hs'⟩
  | _=>exact ⟨hnp,t',L',R',hq,hf',hs'⟩
theorem Ji {id t L R} {Q:Kp} (h:Q .normal t L R):J0 id Q .normal t L R:=h
theorem J3 {id t L R} {Q:Kp} (h:Q .ret t L R):J0 id Q .ret t L R:=h
theorem Kc {id t L R} {Q:Kp} (h:Q .normal t L R):J0 id Q (.exit id) t L R:=by
  have:Nat.beq id id=true:=by simp
  simp only [J0,this,cond_true]
  exact h
theorem Vgc {id k t L R} {Q:Kp} (hk:Nat.beq k id=false) (h:Q (.exit k) t L R):J0 id Q (.exit k) t L R:=by
  simp only [J0,hk,cond_false]
  exact h
def Yhb (k : Nat) : List Nat → Bool
  | []=>false
  | x :: l=>bif Nat.beq k x then true else Yhb k l
def havoc (ws:List Nat) (t junk:Nat→Value):Nat→Value:=fun k=>bif Yhb k ws then junk k else t k
def updL (t : Nat → Value) : List (Nat × Value) → Nat → Value
  | []=>t
  | (d,v) :: l=>upd (updL t l) d v
def Off (ws:List Nat) (t t':Nat→Value):Prop:=∀k,Yhb k ws=false→t' k=t k
theorem Off.refl {ws t}:Off ws t t:=fun _ _=>rfl
theorem Off.upd {ws t t' d v} (hd:Yhb d ws=true) (h:Off ws t t'):Off ws t (upd t' d v):=fun k hk=>by
  unfold Aw.upd
  cases hb:Nat.beq k d with
  | false=>exact h k hk
  | true=>
    have:k=d:=by simpa [Nat.beq_eq] using hb
    subst this
    rw [hd] at hk
    cases hk
theorem Off.updL {ws t t' l} (hd:l.all (fun p=>Yhb p.1 ws)=true) (h:Off ws t t'):Off ws t (updL t' l):=by
  induction l with
  | nil=>exact h
  | cons p l ih=>
    obtain ⟨d,v⟩:=p
    simp only [List.all_cons,Bool.and_eq_true] at hd
    exact Off.upd hd.1 (ih hd.2)
theorem Off.havoc {ws ws' t t' junk} (hd:ws'.all (fun k=>Yhb k ws)=true) (h:Off ws t t'):Off ws t (havoc ws' t' junk):=fun k hk=>by
  unfold Aw.havoc
  cases hb:Yhb k ws' with
  | false=>exact h k hk
  | true=>
    have:∀l:List Nat,l.all (fun k=>Yhb k ws)=true→Yhb k l=true→Yhb k ws=true:=by
      intro l
      induction l with
      | nil=>intro _ h;cases h
      | cons x l ih=>
        intro ha hm
        simp only [List.all_cons,Bool.and_eq_true] at ha
        simp only [Yhb] at hm
        cases hx:Nat.beq k x with
        | true=>
          have:k=x:=by simpa [Nat.beq_eq] using hx
          rw [this];exact ha.1
        | false=>rw [hx] at hm;exact ih ha.2 hm
    rw [this ws' hd hb] at hk
    cases hk
def Vha (t : Nat → Value) : List (Nat × Value) → Prop
  | []=>True
  | (d,v) :: l=>t d=v∧Vha t l
theorem Yl {t : Nat → Value} : ∀ {l : List (Nat × Value)}, Vha t l → updL t l = t
  | [],_=>rfl
  | (d,v) :: l,h=>by
    funext k
    simp only [updL,Yl h.2,upd]
    cases hb:Nat.beq k d with
    | false=>rfl
    | true=>
      have:k=d:=by simpa [Nat.beq_eq] using hb
      rw [cond_true,this];exact h.1.symm
structure Head (γ:Type) where
  slots:γ→List (Nat×Value)
  L:γ→List Blk
  R:γ→List Sl
  m:γ→Nat
def Ke {γ : Type} (ws : List Nat) (t0 : Nat → Value) (hd : Head γ) (m0 : Nat) (Q : Kp) : Kp
  | .normal,t,L,R=>∃g,Off ws t0 t∧Vha t (hd.slots g)∧(hd.L g).Sublist L∧(∀r∈hd.R g,InR r R)∧hd.m g < m0
  | e,t,L,R=>Q e t L R
theorem Va {γ ws t0 m0 t L R} {hd:Head γ} {Q:Kp} (h:Q .ret t L R):Ke ws t0 hd m0 Q .ret t L R:=h
theorem Uf {γ ws t0 m0 id t L R} {hd:Head γ} {Q:Kp} (h:Q (.exit id) t L R):Ke ws t0 hd m0 Q (.exit id) t L R:=h
theorem Zo {ws:List Nat} {t0 t:Nat→Value} (h:Off ws t0 t):havoc ws t0 t=t:=by
  funext k
  unfold havoc
  cases hb:Yhb k ws with
  | true=>rfl
  | false=>exact (h k hb).symm
theorem Vm {γ : Type} {P n body t L R} {Q : Kp} (ws : List Nat) (hd : Head γ) (g0 : γ) (h0 : Vha t (hd.slots g0)) (hL : (hd.L g0).Sublist L) (hR : ∀ r ∈ hd.R g0, InR r R)
    (hstep:∀g junk,CJ P n body (updL (havoc ws t junk) (hd.slots g)) (hd.L g) (hd.R g) (Ke ws t hd (hd.m g) Q)):CJ P n (.loop body) t L R Q:=by
  intro c a w hf hs
  let I:Act→World→Prop:=fun a w=>∃g t',Off ws t t'∧Vha t' (hd.slots g)∧Fr n t' a∧St c (hd.L g) (hd.R g) w
  -- the measure is carried in the invariant: 'the least measure at which the state shows'
  have key:∀m,∀g t' a w,hd.m g=m→Off ws t t'→Vha t' (hd.slots g)→Fr n t' a→St c (hd.L g) (hd.R g) w→
      ∀b k cs,∃e a' w',Y0a n c Q e a' w'∧Arrives P (lone (b.at a (.code body :: .inLoop body :: k)) cs w) b k cs e a' w':=by
    intro m
    induction m using Nat.strongRecOn with
    | _ m ih=>
      intro g t' a w hm ho hsh hfr hst b k cs
      have e:updL (havoc ws t t') (hd.slots g)=t':=by rw [Zo ho,Yl hsh]
      obtain ⟨ex,a₁,w₁,⟨hnp,t₁,L₁,R₁,hq,hf₁,hs₁⟩,harr⟩:=hstep g t' c a w (by rw [e];exact hfr) hst b (.inLoop body :: k) cs
      cases ex with
      | normal=>
        obtain ⟨g',ho',hsh',hL',hR',hlt⟩:=hq
        obtain ⟨e₂,a₂,w₂,hq₂,harr₂⟩:=ih (hd.m g') (hm ▸ hlt) g' t₁ a₁ w₁ rfl ho' hsh' hf₁ (hs₁.weak hL' hR') b k cs
        exact ⟨e₂,a₂,w₂,hq₂,.of_steps (Steps.trans harr (.one step_inLoop)) harr₂⟩
      | exit id=>exact ⟨_,a₁,w₁,⟨hnp,t₁,L₁,R₁,hq,hf₁,hs₁⟩,.pass (x:=.inLoop body) rfl (fun _ _=>.inl zo) harr⟩
      | goto l=>exact ⟨_,a₁,w₁,⟨hnp,t₁,L₁,R₁,hq,hf₁,hs₁⟩,.pass (x:=.inLoop body) rfl (fun _ _=>.inl zo) harr⟩
      | ret=>exact ⟨_,a₁,w₁,⟨hnp,t₁,L₁,R₁,hq,hf₁,hs₁⟩,.pass (x:=.inLoop body) rfl (fun _ _=>.inl zo) harr⟩
      | panic ch=>exact ⟨_,a₁,w₁,⟨hnp,t₁,L₁,R₁,hq,hf₁,hs₁⟩,.pass (x:=.inLoop body) rfl (fun _ _=>.inl zo) harr⟩
      | outgrown=>exact ⟨_,a₁,w₁,⟨hnp,t₁,L₁,R₁,hq,hf₁,hs₁⟩,.pass (x:=.inLoop body) rfl (fun _ _=>.inl zo) harr⟩
  intro b k cs
  obtain ⟨e,a',w',hq,harr⟩:=key _ g0 t a w rfl .refl h0 hf (hs.weak hL hR) b k cs
  exact ⟨e,a',w',hq,.of_steps (.one step_loop) harr⟩
end Go.Aw
end
section
namespace Go.Aw
open Go
inductive TK where
  | scalar | bool | struct | array (n e:Nat) | slice (e:Nat) | ptr (e:Nat) | int (k:IntKind) | string | other
structure TI where
  k:TK
  sz:Nat
  fl:List (Nat×Nat)
  bt:Nat
  z:List Value
def Vgd (P:Program) (i:TypeInfo) (u:TypeDesc) (z:Value):TI:=
  { k:=match u with
      | .struct _=>.struct
      | .array n e=>.array n e
      | .slice e=>.slice e
      | .pointer e=>.ptr e
      | .int k=>.int k
      | .bool=>.bool
      | .string=>.string
      | _=>.other
    sz:=i.size
    fl:=match u with
      | .struct fs=>fs.toList.map fun f=>(f.offset,((P.info? f.type).map (·.size)).getD 0)
      | _=>[]
    bt:=i.bytes
    z:=z.cells.toList }
def Zg (P:Program) (T:Nat):Option TI:=
  match P.info? T,P.underlying T with
  | some i,some u=>match i.zero with
    | some z=>some (Vgd P i u z)
    | none=>none
  | _,_=>none
def V0 (tab:List (List (Option TI))) (T:Nat):Option TI:=((tab[T / 16]?).bind (·[T % 16]?)).join
structure Tabs (P:Program) where
  tab:List (List (Option TI))
  ok:∀T ti,V0 tab T=some ti→Zg P T=some ti
def Y7e (P:Program) (tab:List (List (Option TI))) (c:Nat):List (Option TI):=
  (List.range 16).map fun j=>match V0 tab (16 * c + j) with
    | some _=>Zg P (16 * c + j)
    | none=>none
theorem Z9e {P:Program} {tab:List (List (Option TI))} (h:tab=(List.range tab.length).map (Y7e P tab)):∀T ti,V0 tab T=some ti→Zg P T=some ti:=by
  intro T ti hg
  have hg':=hg
  unfold V0 at hg
  rw [h] at hg
  rcases Nat.lt_or_ge (T / 16) tab.length with h1 | h1
  · rw [List.getElem?_map, List.getElem?_range h1] at hg
    simp only [Option.map_some,Option.bind_some,Y7e] at hg
    rw [List.getElem?_map,List.getElem?_range (Nat.mod_lt _ za)] at hg
    simp only [Option.map_some,Option.join_some] at hg
    rw [Nat.div_add_mod,hg'] at hg
    exact hg
  · rw [List.getElem?_map, List.getElem?_eq_none zda] at hg
    simp at hg
section facts
variable {P:Program} {T:Nat} {ti:TI}
theorem U4 (h:Zg P T=some ti):∃i u z,P.info? T=some i∧P.underlying T=some u∧i.zero=some z∧ti=Vgd P i u z:=by
  unfold Zg at h
  split at h
  · rename_i i u hi hu
    split at h
    · rename_i z hz
      exact ⟨i,u,z,hi,hu,hz,(Option.some.inj h).symm⟩
    · cases h
  · cases h
theorem run_sizeOf (h:Zg P T=some ti) (w:World):(sizeOf T).run P w=.ok ti.sz w:=by
  obtain ⟨i,u,z,hi,hu,hz,rfl⟩:=U4 h
  simp [sizeOf,typeInfo,hi,Vgd]
theorem Zp (h:Zg P T=some ti) (w:World):∃z:Value,(zeroValue T).run P w=.ok z w∧z.cells.toList=ti.z:=by
  obtain ⟨i,u,z,hi,hu,hz,rfl⟩:=U4 h
  exact ⟨z,by simp [zeroValue,typeInfo,hi,hz],rfl⟩
def TK.isAgg : TK → Bool
  | .struct | .array _ _=>true
  | _=>false
theorem Uyb (h:Zg P T=some ti) (w:World):(Go.isAgg T).run P w=.ok ti.k.isAgg w:=by
  obtain ⟨i,u,z,hi,hu,hz,rfl⟩:=U4 h
  cases u <;> simp [Go.isAgg,run_underlying hu,Vgd,TK.isAgg]
theorem Ut {e:Nat} (h:Zg P T=some ti) (hk:ti.k=.slice e):P.underlying T=some (.slice e):=by
  obtain ⟨i,u,z,hi,hu,hz,rfl⟩:=U4 h
  cases u <;> simp [Vgd] at hk
  rw [hu,hk]
theorem Vic {k:IntKind} (h:Zg P T=some ti) (hk:ti.k=.int k):P.underlying T=some (.int k):=by
  obtain ⟨i,u,z,hi,hu,hz,rfl⟩:=U4 h
  cases u <;> simp [Vgd] at hk
  rw [hu,hk]
theorem Vka (h:Zg P T=some ti) (hk:ti.k=.struct):
    ∃fs,P.underlying T=some (.struct fs)∧ti.fl=fs.toList.map fun f=>(f.offset,((P.info? f.type).map (·.size)).getD 0):=by
  obtain ⟨i,u,z,hi,hu,hz,rfl⟩:=U4 h
  cases u <;> simp [Vgd] at hk
  exact ⟨_,hu,rfl⟩
end facts
inductive In1 (e : Blk) : List Blk → Prop
  | here {L}:In1 e (e :: L)
  | cons {x L} (h:In1 e L):In1 e (x :: L)
  | app {X L} (h:In1 e L):In1 e (X ++ L)
theorem In1.mem {e:Blk} {L:List Blk} (h:In1 e L):e∈L:=by
  induction h with
  | here=>simp
  | cons _ ih=>exact List.mem_cons_of_mem _ ih
  | app _ ih=>exact List.mem_append_right _ ih
theorem Ksc (a b:Int):(a == b)=decide (a=b):=by
  by_cases h:a=b <;> simp [h]
section quiet
variable {P:Program} {ρ:Operand→Value} {L:List Blk} {R:List Sl} {dst:Option Tmp} {ty:TypeId} {pos:String} {after:Array Edge} {guard:Option (Nat×Bool)}
theorem Jy {x:Operand} {v:Value} (h:ρ x=v):YV P ⟨dst,.move x,ty,pos,after,guard⟩ ρ L R v:=fun _ _ _=>by simp [execOp,h]
theorem Ud {x:Operand} {v:Value} (h:ρ x=v):YV P ⟨dst,.assign x,ty,pos,after,guard⟩ ρ L R v:=fun _ _ _=>by simp [execOp,h]
theorem Uja {c x y:Operand} {b:Bool} (h:ρ c=.bool b):YV P ⟨dst,.pick c x y,ty,pos,after,guard⟩ ρ L R (if b then ρ x else ρ y):=fun _ _ _=>by
  simp [execOp,h,asBool]
theorem Vr {c x y:Operand} {v:Value} (h:ρ c=.bool true) (hv:ρ x=v):YV P ⟨dst,.pick c x y,ty,pos,after,guard⟩ ρ L R v:=fun _ _ _=>by
  simp [execOp,h,asBool,hv]
theorem U9 {c x y:Operand} {v:Value} (h:ρ c=.bool false) (hv:ρ y=v):YV P ⟨dst,.pick c x y,ty,pos,after,guard⟩ ρ L R v:=fun _ _ _=>by
  simp [execOp,h,asBool,hv]
theorem Keb {n:Int} (h1:-9223372036854775808≤n) (h2:n≤9223372036854775807):IntKind.i64.wrap n=n:=by
  rw [IntKind.wrap_i64];omega
variable {T T2:TypeId} {x y:Operand} {k:IntKind} {a b:Int}
theorem Y1b (hx:ρ x=.int k a) (hy:ρ y=.int k b):YV P ⟨dst,.binOp .add T x y T2,ty,pos,after,guard⟩ ρ L R (.int k (k.wrap (a + b))):=fun _ _ _=>by
  simp [execOp,hx,hy,eqGuard,binOp,Op.intArith]
theorem Jwd (hx:ρ x=.int k a) (hy:ρ y=.int k b):YV P ⟨dst,.binOp .sub T x y T2,ty,pos,after,guard⟩ ρ L R (.int k (k.wrap (a - b))):=fun _ _ _=>by
  simp [execOp,hx,hy,eqGuard,binOp,Op.intArith]
theorem Vrc (hx:ρ x=.int k a) (hy:ρ y=.int k b):YV P ⟨dst,.binOp .mul T x y T2,ty,pos,after,guard⟩ ρ L R (.int k (k.wrap (a * b))):=fun _ _ _=>by
  simp [execOp,hx,hy,eqGuard,binOp,Op.intArith]
theorem Ubb (hx:ρ x=.int .i64 a) (hy:ρ y=.int .i64 b) (h1:-9223372036854775808≤a + b) (h2:a + b≤9223372036854775807):
    YV P ⟨dst,.binOp .add T x y T2,ty,pos,after,guard⟩ ρ L R (.int .i64 (a + b)):=by
  have:=Y1b (P:=P) (L:=L) (R:=R) (dst:=dst) (ty:=ty) (pos:=pos) (after:=after) (guard:=guard) (T:=T) (T2:=T2) hx hy
  rwa [Keb h1 h2] at this
theorem Ugb (hx:ρ x=.int .i64 a) (hy:ρ y=.int .i64 b) (h1:-9223372036854775808≤a - b) (h2:a - b≤9223372036854775807):
    YV P ⟨dst,.binOp .sub T x y T2,ty,pos,after,guard⟩ ρ L R (.int .i64 (a - b)):=by
  have:=Jwd (P:=P) (L:=L) (R:=R) (dst:=dst) (ty:=ty) (pos:=pos) (after:=after) (guard:=guard) (T:=T) (T2:=T2) hx hy
  rwa [Keb h1 h2] at this
theorem K3c (hx:ρ x=.int .i64 a) (hy:ρ y=.int .i64 b) (h1:-9223372036854775808≤a * b) (h2:a * b≤9223372036854775807):
    YV P ⟨dst,.binOp .mul T x y T2,ty,pos,after,guard⟩ ρ L R (.int .i64 (a * b)):=by
  have:=Vrc (P:=P) (L:=L) (R:=R) (dst:=dst) (ty:=ty) (pos:=pos) (after:=after) (guard:=guard) (T:=T) (T2:=T2) hx hy
  rwa [Keb h1 h2] at this
theorem Kjd (hx:ρ x=.int k a) (hy:ρ y=.int k b) (h:¬ b=0):YV P ⟨dst,.binOp .quo T x y T2,ty,pos,after,guard⟩ ρ L R (.int k (k.wrap (a.tdiv b))):=fun _ _ _=>by
  simp [execOp,hx,hy,eqGuard,binOp,Op.intDiv,h]
theorem Z2d (hx:ρ x=.int k a) (hy:ρ y=.int k b) (h:¬ b=0):YV P ⟨dst,.binOp .rem T x y T2,ty,pos,after,guard⟩ ρ L R (.int k (a.tmod b)):=fun _ _ _=>by
  simp [execOp,hx,hy,eqGuard,binOp,Op.intDiv,h]
theorem J6d (hx:ρ x=.int .i64 a) (hy:ρ y=.int .i64 b) (h:¬ b=0) (h1:-9223372036854775808≤a.tdiv b) (h2:a.tdiv b≤9223372036854775807):
    YV P ⟨dst,.binOp .quo T x y T2,ty,pos,after,guard⟩ ρ L R (.int .i64 (a.tdiv b)):=by
  have:=Kjd (P:=P) (L:=L) (R:=R) (dst:=dst) (ty:=ty) (pos:=pos) (after:=after) (guard:=guard) (T:=T) (T2:=T2) hx hy h
  rwa [Keb h1 h2] at this
theorem Jlb (hx:ρ x=.int k a) (hy:ρ y=.int k b):YV P ⟨dst,.binOp .lss T x y T2,ty,pos,after,guard⟩ ρ L R (.bool (decide (a < b))):=fun _ _ _=>by
  simp [execOp,hx,hy,eqGuard,binOp,Op.intCmp]
theorem V4e (hx:ρ x=.int k a) (hy:ρ y=.int k b):YV P ⟨dst,.binOp .leq T x y T2,ty,pos,after,guard⟩ ρ L R (.bool (decide (a≤b))):=fun _ _ _=>by
  simp [execOp,hx,hy,eqGuard,binOp,Op.intCmp]
theorem U0c (hx:ρ x=.int k a) (hy:ρ y=.int k b):YV P ⟨dst,.binOp .gtr T x y T2,ty,pos,after,guard⟩ ρ L R (.bool (decide (b < a))):=fun _ _ _=>by
  simp [execOp,hx,hy,eqGuard,binOp,Op.intCmp]
theorem Zob (hx:ρ x=.int k a) (hy:ρ y=.int k b):YV P ⟨dst,.binOp .geq T x y T2,ty,pos,after,guard⟩ ρ L R (.bool (decide (b≤a))):=fun _ _ _=>by
  simp [execOp,hx,hy,eqGuard,binOp,Op.intCmp]
theorem K6a (hx:ρ x=.int k a) (hy:ρ y=.int k b):YV P ⟨dst,.binOp .eql T x y T2,ty,pos,after,guard⟩ ρ L R (.bool (decide (a=b))):=fun _ _ _=>by
  simp [execOp,hx,hy,eqGuard,binOp,Op.intCmp,Ksc]
theorem Klb (hx:ρ x=.int k a) (hy:ρ y=.int k b):YV P ⟨dst,.binOp .neq T x y T2,ty,pos,after,guard⟩ ρ L R (.bool (decide (¬ a=b))):=fun _ _ _=>by
  simp [execOp,hx,hy,eqGuard,binOp,Op.intCmp,bne,Ksc]
theorem J8d (hx:ρ x=.int .i64 a) (h1:-9223372036854775807≤a) (h2:a≤9223372036854775808):YV P ⟨dst,.unOp .neg T x,ty,pos,after,guard⟩ ρ L R (.int .i64 (-a)):=fun _ _ _=>by
  have:IntKind.i64.wrap (0 - a)= -a:=by rw [Keb za za];omega
  simp only [Int.zero_sub] at this
  simp [execOp,hx,Op.unary,Op.intArith,this]
theorem Jnb {c:Bool} (hx:ρ x=.bool c):YV P ⟨dst,.unOp .not T x,ty,pos,after,guard⟩ ρ L R (.bool (!c)):=fun _ _ _=>by
  simp [execOp,hx,Op.unary]
variable (tb:Tabs P)
theorem J3a {k k':IntKind} {n1 n2 f1 f2 b1 b2 z1 z2} (h1:V0 tb.tab T=some ⟨.int k',n1,f1,b1,z1⟩) (h2:V0 tb.tab T2=some ⟨.int k,n2,f2,b2,z2⟩) (hx:ρ x=.int k' a):
    YV P ⟨dst,.convert T T2 x,ty,pos,after,guard⟩ ρ L R (.int k (k.wrap a)):=fun _ w _=>by
  have u1:=Vic (tb.ok _ _ h1) rfl
  have u2:=Vic (tb.ok _ _ h2) rfl
  simp [execOp,hx,convert,run_underlying u1,run_underlying u2,Conv.intToInt]
theorem Ksa {k' : IntKind} {n1 n2 f1 f2 b1 b2 z1 z2} (h1 : V0 tb.tab T = some ⟨.int k', n1, f1, b1, z1⟩) (h2 : V0 tb.tab T2 = some ⟨.int .i64, n2, f2, b2, z2⟩) (hx : ρ x = .int k' a)
    (h3:-9223372036854775808≤a) (h4:a≤9223372036854775807):YV P ⟨dst,.convert T T2 x,ty,pos,after,guard⟩ ρ L R (.int .i64 a):=by
  have:=J3a (P:=P) (L:=L) (R:=R) (dst:=dst) (ty:=ty) (pos:=pos) (after:=after) (guard:=guard) tb h1 h2 hx
  rwa [Keb h3 h4] at this
theorem Kua (b off n:Nat):(⟨b,off,none⟩:Addr).add n=⟨b,off + n,none⟩:=by
  unfold Addr.add;split <;> simp_all
theorem U6 {f off sz n b o:Nat} {fl:List (Nat×Nat)} {bt z} (hT:V0 tb.tab T=some ⟨.struct,n,fl,bt,z⟩) (hx:ρ x=.pointer (some ⟨b,o,none⟩)) (hf:fl[f]?=some (off,sz + 1)):
    YV P ⟨dst,.fieldAddr T x f,ty,pos,after,guard⟩ ρ L R (.pointer (some ⟨b,o + off,none⟩)):=fun _ w _=>by
  obtain ⟨fs,hu,hfl⟩:=Vka (tb.ok _ _ hT) rfl
  simp only at hfl
  subst hfl
  rw [List.getElem?_map] at hf
  obtain ⟨fd,hfd,he⟩:=Option.map_eq_some_iff.1 hf
  obtain ⟨h1,h2⟩:=Prod.mk.inj he
  have hfd':fs[f]?=some fd:=by rw [← Array.getElem?_toList];exact hfd
  have hsz:∃i,P.info? fd.type=some i∧i.size=sz + 1:=by
    cases hi:P.info? fd.type with
    | none=>rw [hi] at h2;simp at h2
    | some i=>rw [hi] at h2;exact ⟨i,rfl,by simpa using h2⟩
  obtain ⟨i,hi,hs⟩:=hsz
  simp [execOp,hx,Instr.fieldAt,run_underlying hu,hfd',Instr.sureAddr,fieldPlace,sizeOf,typeInfo,hi,hs,Kua,h1]
theorem U3a {f off sz n wd i j:Nat} {ar:Option Addr} {fl:List (Nat×Nat)} {bt z} (hT:V0 tb.tab T=some ⟨.struct,n,fl,bt,z⟩) (hx:ρ x=.pointer (some ⟨adB ar,eo ar wd i j,none⟩)) (hf:fl[f]?=some (off,sz + 1)):
    YV P ⟨dst,.fieldAddr T x f,ty,pos,after,guard⟩ ρ L R (.pointer (some ⟨adB ar,eo ar wd i (j + off),none⟩)):=by
  have:=U6 (P:=P) (L:=L) (R:=R) (dst:=dst) (ty:=ty) (pos:=pos) (after:=after) (guard:=guard) tb hT hx hf
  have e:eo ar wd i j + off=eo ar wd i (j + off):=by simp [eo,Nat.add_assoc]
  rwa [e] at this
theorem Jk {e n n2 bt z bt2 z2 k2} {fl fl2 : List (Nat × Nat)} {len cap i : Nat} {b o : Nat} (hT : V0 tb.tab T = some ⟨.slice e, n, fl, bt, z⟩) (hE : V0 tb.tab e = some ⟨k2, n2, fl2, bt2, z2⟩)
    (hx:ρ x=.slice (some ⟨b,o,none⟩) len cap) (hy:ρ y=.int k a) (hi:a=(i:Int)) (hlt:i < len):
    YV P ⟨dst,.indexAddr T x y,ty,pos,after,guard⟩ ρ L R (.pointer (some ⟨adB (some ⟨b,o,none⟩),eo (some ⟨b,o,none⟩) n2 i 0,none⟩)):=fun _ w _=>by
  have hu:=Ut (tb.ok _ _ hT) rfl
  have hs:=run_sizeOf (tb.ok _ _ hE)
  simp only at hs
  subst hi
  simp [execOp,hx,hy,Instr.indexAt,asIntOf,run_underlying hu,hs,hlt,Kua,adB,eo,adO]
theorem Jf {e n n2 bt z bt2 z2 k2} {fl fl2 : List (Nat × Nat)} {len cap i : Nat} {ar : Option Addr} {rows : List (List Value)} {subs : List Sl} (hT : V0 tb.tab T = some ⟨.slice e, n, fl, bt, z⟩) (hE : V0 tb.tab e = some ⟨k2, n2, fl2, bt2, z2⟩)
    (hx:ρ x=.slice ar len cap) (hy:ρ y=.int k a) (hR:InR (.mk n2 ar len cap rows subs) R) (hi:a=(i:Int)) (hlt:i < len):
    YV P ⟨dst,.indexAddr T x y,ty,pos,after,guard⟩ ρ L R (.pointer (some ⟨adB ar,eo ar n2 i 0,none⟩)):=fun c w hst=>by
  obtain ⟨⟨G,hh,hg⟩,ho,hk⟩:=hst
  obtain ⟨r,hr,hsub⟩:=hR
  have hrep:=(hh.rep r hr).sub hsub
  cases hrep with
  | mk hl hc hm hw hmem hs=>
    rcases hmem with h0 | ⟨b,off,ha,_,_⟩
    · subst h0;simp only [List.length_nil] at hl;omega
    · subst ha
      exact Jk tb hT hE hx hy hi hlt c w ⟨⟨G,hh,hg⟩,ho,hk⟩
theorem Jza {c:Ctx} {w:World} (h:St c L R w) {b:Nat} {cs:List Value} {T:TypeId} (he:(⟨b,cs,T⟩:Blk)∈L) (o:Nat):w.cell? ⟨b,o,none⟩=cs[o]?:=by
  obtain ⟨⟨G,hh,hg⟩,ho,hk⟩:=h
  have:=hh.own _ he
  simp [World.cell?,BT.obj] at this ⊢
  rw [this];simp
theorem U9b {w:World} {T:TypeId} {ti:TI} (h:Zg P T=some ti) (hk:ti.k.isAgg=false) {b o:Nat} {v:Value} (hc:w.cell? ⟨b,o,none⟩=some v):
    (loadVar T ⟨b,o,none⟩).run P w=.ok v w:=by
  simp [loadVar,Uyb h,hk,load,Sem.run,hc]
theorem Zza {w : World} {T : TypeId} {ti : TI} (h : Zg P T = some ti) (hk : ti.k.isAgg = true) {b o : Nat} {row : List Value} (hn : row.length = ti.sz)
    (hc:∀j v,row[j]?=some v→w.cell? ⟨b,o + j,none⟩=some v):(loadVar T ⟨b,o,none⟩).run P w=.ok (.agg row.toArray) w:=by
  have hl:=run_loadCells_list (P:=P) w ⟨b,o,none⟩ row (fun j v hj=>by rw [Kua];exact hc j v hj)
  simp [loadVar,Uyb h,hk,run_sizeOf h,← hn,hl]
theorem K0 {n b o : Nat} {fl bt z v} {kk : TK} {cs : List Value} {T' : TypeId} (hx : ρ x = .pointer (some ⟨b, o, none⟩)) (hT : V0 tb.tab T = some ⟨kk, n, fl, bt, z⟩) (hk : kk.isAgg = false)
    (hin:In1 ⟨b,cs,T'⟩ L) (hv:cs[o]?=some v):YV P ⟨dst,.load T x,ty,pos,after,guard⟩ ρ L R v:=fun c w hst=>by
  have:=U9b (P:=P) (w:=w) (tb.ok _ _ hT) hk (b:=b) (o:=o) (v:=v) (by rw [Jza hst hin.mem];exact hv)
  simp [execOp,hx,Instr.loadAt,Instr.sureAddr,this]
def sub (cs:List Value) (o n:Nat):List Value:=(cs.drop o).take n
theorem Jl {n b o : Nat} {fl bt z} {kk : TK} {cs row : List Value} {T' : TypeId} (hx : ρ x = .pointer (some ⟨b, o, none⟩)) (hT : V0 tb.tab T = some ⟨kk, n, fl, bt, z⟩) (hk : kk.isAgg = true)
    (hin:In1 ⟨b,cs,T'⟩ L) (hv:sub cs o n=row) (hn:row.length=n):YV P ⟨dst,.load T x,ty,pos,after,guard⟩ ρ L R (.agg row.toArray):=fun c w hst=>by
  have:=Zza (P:=P) (w:=w) (tb.ok _ _ hT) hk (b:=b) (o:=o) (row:=row) hn (fun j v hj=>by
    rw [Jza hst hin.mem]
    rw [← hv,sub,List.getElem?_take] at hj
    split at hj
    · simpa using hj
    · cases hj)
  simp [execOp,hx,Instr.loadAt,Instr.sureAddr,this]
theorem Y9c {c:Ctx} {w:World} (h:St c L R w) {wd len cap i j:Nat} {ar:Option Addr} {rows:List (List Value)} {subs:List Sl} (hR:InR (.mk wd ar len cap rows subs) R) {row:List Value} (hr:rows[i]?=some row) {v:Value} (hj:row[j]?=some v):
    w.cell? ⟨adB ar,eo ar wd i j,none⟩=some v:=by
  obtain ⟨⟨G,hh,hg⟩,ho,hk⟩:=h
  obtain ⟨r,hr',hsub⟩:=hR
  have hrep:=(hh.rep r hr').sub hsub
  cases hrep with
  | mk hl hc hm hw hmem hs=>
    have hi:i < rows.length:=(List.getElem?_eq_some_iff.1 hr).1
    rcases hmem with h0 | ⟨b,off,ha,_,Jkb⟩
    · subst h0;simp at hi
    · subst ha
      have hjw:j < wd:=by
        have h1:=(List.getElem?_eq_some_iff.1 hj).1
        have h2:=hw row (List.mem_of_getElem? hr)
        omega
      rw [show adB (some ⟨b,off,none⟩)=b from rfl,show eo (some ⟨b,off,none⟩) wd i j=off + i * wd + j from rfl,Jkb i j za hjw,hr]
      exact hj
theorem Z3 {α : Type} {n wd len cap i j : Nat} {fl bt z v} {kk : TK} {ar : Option Addr} {f : α → List Value} {l : List α} {xx : α} {subs : List Sl} (hx : ρ x = .pointer (some ⟨adB ar, eo ar wd i j, none⟩)) (hT : V0 tb.tab T = some ⟨kk, n, fl, bt, z⟩) (hk : kk.isAgg = false)
    (hR:InR (.mk wd ar len cap (l.map f) subs) R) (hr:l[i]?=some xx) (hj:(f xx)[j]?=some v):YV P ⟨dst,.load T x,ty,pos,after,guard⟩ ρ L R v:=fun c w hst=>by
  have:=U9b (P:=P) (w:=w) (tb.ok _ _ hT) hk (v:=v) (Y9c hst hR (row:=f xx) (by rw [List.getElem?_map,hr];rfl) hj)
  simp [execOp,hx,Instr.loadAt,Instr.sureAddr,this]
theorem Ku {α : Type} {n wd len cap i j : Nat} {fl bt z} {kk : TK} {ar : Option Addr} {f : α → List Value} {l : List α} {xx : α} {row : List Value} {subs : List Sl} (hx : ρ x = .pointer (some ⟨adB ar, eo ar wd i j, none⟩)) (hT : V0 tb.tab T = some ⟨kk, n, fl, bt, z⟩) (hk : kk.isAgg = true)
    (hR:InR (.mk wd ar len cap (l.map f) subs) R) (hr:l[i]?=some xx) (hv:sub (f xx) j n=row) (hn:row.length=n):YV P ⟨dst,.load T x,ty,pos,after,guard⟩ ρ L R (.agg row.toArray):=fun c w hst=>by
  have:=Zza (P:=P) (w:=w) (tb.ok _ _ hT) hk (b:=adB ar) (o:=eo ar wd i j) (row:=row) hn (fun jj v hj=>by
    rw [← hv,sub,List.getElem?_take] at hj
    split at hj
    · have := Y9c hst hR (row := f xx) (i := i) (j := j + jj) (v := v) (by rw [List.getElem?_map, hr]; rfl) (by simpa using hj)
      rw [← this]
      simp [eo,Nat.add_assoc]
    · cases hj)
  simp [execOp,hx,Instr.loadAt,Instr.sureAddr,this]
theorem Zn {ts:Array TypeId} {e n fl bt z} {ar:Option Addr} {len cap:Nat} (hts:ts[0]?=some T) (hT:V0 tb.tab T=some ⟨.slice e,n,fl,bt,z⟩) (hx:ρ x=.slice ar len cap):
    YV P ⟨dst,.call ⟨.builtin .len,#[x],ts⟩,ty,pos,after,guard⟩ ρ L R (.int .i64 (len:Int)):=fun _ w _=>by
  have hu:=Ut (tb.ok _ _ hT) rfl
  simp [execOp,resolve,invoke,builtin,Builtin.len_,hts,hx,run_underlying hu,goInt]
theorem Jz {ad:Addr} (hx:ρ x=.pointer (some ad)):YV P ⟨dst,.nilCheck x,ty,pos,after,guard⟩ ρ L R (.pointer (some ad)):=fun _ w _=>by
  simp [execOp,hx]
theorem J0c {ts:Array TypeId} (hx:ρ x=.int k a) (hy:ρ y=.int k b):YV P ⟨dst,.call ⟨.builtin .min,#[x,y],ts⟩,ty,pos,after,guard⟩ ρ L R (.int k (min a b)):=fun _ w _=>by
  simp only [execOp,resolve,invoke,builtin,Builtin.min_,List.map_toArray,List.map_cons,List.map_nil,hx,hy]
  have:(if b < a then b else a)=min a b:=by rw [Int.min_def];split <;> split <;> omega
  simp [Builtin.min2,this]
theorem U2a {ts:Array TypeId} (hx:ρ x=.int k a) (hy:ρ y=.int k b):YV P ⟨dst,.call ⟨.builtin .max,#[x,y],ts⟩,ty,pos,after,guard⟩ ρ L R (.int k (max a b)):=fun _ w _=>by
  simp only [execOp,resolve,invoke,builtin,Builtin.max_,List.map_toArray,List.map_cons,List.map_nil,hx,hy]
  have:(if b > a then b else a)=max a b:=by rw [Int.max_def];split <;> split <;> omega
  simp [Builtin.max2,this]
theorem K4 {i:Nat} {vs:Array Value} {v:Value} (hx:ρ x=.tuple vs) (hv:vs[i]?=some v):YV P ⟨dst,.extract x i,ty,pos,after,guard⟩ ρ L R v:=fun _ w _=>by
  simp [execOp,hx,Instr.extract,hv]
end quiet
end Go.Aw
end
section
namespace Go.Aw
open Go
def Yjf (args:List Value):Nat→Value:=fun k=>args.getD k undef
def RV (P:Program) (t:Nat→Value) (L:List Blk) (R:List Sl) (r:ResultVar) (v:Value):Prop:=
  match r with
  | .tmp k=>t k=v
  | .cell k T=>∀c w,St c L R w→∃a,t k=.pointer (some a)∧(loadVar T a).run P w=.ok v w
def Uh (P : Program) (fn : Func) (Post : Yn) : Kp
  | .normal,t,L,R=>∃v L' R',(∀c n a w,Fr n t a→St c L R w→(results fn a.tmps).run P w=.ok v w)∧Post v L' R'∧L'.Sublist L∧∀r∈R',InR r R
  | .ret,t,L,R=>∃v L' R',(∀c n a w,Fr n t a→St c L R w→(results fn a.tmps).run P w=.ok v w)∧Post v L' R'∧L'.Sublist L∧∀r∈R',InR r R
  | _,_,_,_=>False
theorem Jg {P : Program} {f : FuncId} {fn : Func} {code : Code} {args : List Value} {L : List Blk} {R : List Sl} {Post : Yn} (n : Nat)
    (hcall:∀(xs:Array Value) (w:World),(callFunc f xs).run P w=.ok (.enter f xs) w) (hf:P.funcs[f]?=some fn) (hb:fn.body=some code) (hn:fn.ntmps=n) (ha:Nat.ble args.length n=true)
    (h:CJ P n code (Yjf args) L R (Uh P fn Post)):Tri P f args.toArray L R Post:=by
  refine ⟨hcall,fun w G hh=>?_⟩
  have ha':args.length≤n:=Nat.le_of_ble_eq_true ha
  refine calls_of_wp hf hb (wp_mono (h ⟨w,inL L,G⟩ _ w ⟨rfl,?_,fun k=>?_⟩ (St.init hh)) ?_)
  · simp [hn];omega
  · simp only [Yjf, hn]
    rcases Nat.lt_or_ge k args.length with hk | hk
    · simp [List.getD,hk,Array.getElem?_append]
    · rcases Nat.lt_or_ge k n with hk2 | hk2
      · have : k - args.length < n - args.length := by omega
        simp [List.getD,Array.getElem?_append,Nat.not_lt.2 hk,this]
      · have : ¬ k - args.length < n - args.length := by omega
        simp [List.getD,Array.getElem?_append,Nat.not_lt.2 hk,this]
  · rintro e a w' ⟨_, t, L', R', hq, hf', hs'⟩
    have key:(∃v L'' R'',(∀c n a w,Fr n t a→St c L' R' w→(results fn a.tmps).run P w=.ok v w)∧Post v L'' R''∧L''.Sublist L'∧∀r∈R'',InR r R')→
        a.defers=[]∧∃v,(results fn a.tmps).run P w'=.ok v w'∧∃v_1 L'_1 R'_1,Ending.returned v=.returned v_1∧Post v_1 L'_1 R'_1∧St ⟨w,inL L,G⟩ L'_1 R'_1 w':=by
      rintro ⟨v,L'',R'',hr,hp,hL,hR⟩
      exact ⟨hf'.defers,v,hr _ _ a w' hf' hs',v,L'',R'',rfl,hp,hs'.weak hL hR⟩
    cases e with
    | normal=>exact key hq
    | ret=>exact key hq
    | _=>exact hq.elim
section
variable {P:Program} {fn:Func} {Post:Yn} {t:Nat→Value} {L:List Blk} {R:List Sl}
def Z7e (tmps : Array Value) : ResultVar → Sem Value
  | .tmp t=>pure (tmps.getD t undef)
  | .cell a t=>do loadVar t (← asAddr (tmps.getD a undef))
theorem K5a (tmps:Array Value):results fn tmps=(do
    let vs ← fn.results.mapM (Z7e tmps)
    pure (if h:vs.size=1 then vs[0] else .tuple vs)):=rfl
theorem Y6a {r:ResultVar} {v:Value} (h:RV P t L R r v) {c n a w} (hf:Fr n t a) (hs:St c L R w):(Z7e a.tmps r).run P w=.ok v w:=by
  cases r with
  | tmp k=>
    have e:t k=v:=h
    rw [← e,← hf.val k]
    rfl
  | cell k T=>
    obtain ⟨ad,h1,h2⟩:=h c w hs
    have h3:=hf.val k
    rw [h1] at h3
    simp only [Z7e,h3]
    simp [asAddr,h2]
theorem Ya {r:ResultVar} {v:Value} (hr:fn.results=#[r]) (h:RV P t L R r v):∀c n a w,Fr n t a→St c L R w→(results fn a.tmps).run P w=.ok v w:=by
  intro c n a w hf hs
  have h1:=Y6a h hf hs
  rw [K5a,hr]
  simp [h1]
theorem Ug {r s:ResultVar} {v u:Value} (hr:fn.results=#[r,s]) (h:RV P t L R r v) (k:RV P t L R s u):∀c n a w,Fr n t a→St c L R w→(results fn a.tmps).run P w=.ok (.tuple #[v,u]) w:=by
  intro c n a w hf hs
  have h1:=Y6a h hf hs
  have h2:=Y6a k hf hs
  rw [K5a,hr]
  simp [h1,h2]
theorem K5b {r s q:ResultVar} {v u x:Value} (hr:fn.results=#[r,s,q]) (h:RV P t L R r v) (k:RV P t L R s u) (m:RV P t L R q x):∀c n a w,Fr n t a→St c L R w→(results fn a.tmps).run P w=.ok (.tuple #[v,u,x]) w:=by
  intro c n a w hf hs
  have h1:=Y6a h hf hs
  have h2:=Y6a k hf hs
  have h3:=Y6a m hf hs
  rw [K5a,hr]
  simp [h1,h2,h3]
theorem Je {k:Nat} {v:Value} (h:t k=v):RV P t L R (.tmp k) v:=h
theorem Jm (tb : Tabs P) {k T n b o : Nat} {fl bt z} {kk : TK} {cs row : List Value} {T' : TypeId} (hx : t k = .pointer (some ⟨b, o, none⟩)) (hT : V0 tb.tab T = some ⟨kk, n, fl, bt, z⟩) (hk : kk.isAgg = true)
    (hin:In1 ⟨b,cs,T'⟩ L) (hv:sub cs o n=row) (hn:row.length=n):RV P t L R (.cell k T) (.agg row.toArray):=by
  intro c w hst
  refine ⟨_,hx,Zza (tb.ok _ _ hT) hk hn (fun j v hj=>?_)⟩
  rw [Jza hst hin.mem]
  rw [← hv,sub,List.getElem?_take] at hj
  split at hj
  · simpa using hj
  · cases hj
theorem Ja {r:Sl} {R:List Sl} (h:r∈R):InR r R:=⟨r,h,.here⟩
theorem Jc (R:List Sl):∀r∈R,InR r R:=fun _ h=>Ja h
theorem Ks {v:Value} {L':List Blk} {R':List Sl} (h:∀c n a w,Fr n t a→St c L R w→(results fn a.tmps).run P w=.ok v w) (hp:Post v L' R') (hL:L'.Sublist L) (hR:∀r∈R',InR r R):Uh P fn Post .ret t L R:=
  ⟨v,L',R',h,hp,hL,hR⟩
theorem J6a {v:Value} {L':List Blk} {R':List Sl} (h:∀c n a w,Fr n t a→St c L R w→(results fn a.tmps).run P w=.ok v w) (hp:Post v L' R') (hL:L'.Sublist L) (hR:∀r∈R',InR r R):Uh P fn Post .normal t L R:=
  ⟨v,L',R',h,hp,hL,hR⟩
end
section
variable {P:Program} {n:Nat} {all:Array Oper} {op:Op} {ty:TypeId} {pos:String} {after:Array Edge} {rest:List Oper} {t:Nat→Value} {L:List Blk} {R:List Sl} {Q:Kp} {d:Tmp} {v:Value}
theorem Jx (hv:YV P ⟨some d,op,ty,pos,after,none⟩ (ev t) L R v) (hd:Nat.blt d n=true) (h:LJ P n all rest (upd t d v) L R Q):LJ P n all (⟨some d,op,ty,pos,after,none⟩ :: rest) t L R Q:=
  K6d hv rfl hd h
theorem Y9 {Post:Yn} (hg:Gives P ⟨some d,op,ty,pos,after,none⟩ (ev t) L R Post) (hd:Nat.blt d n=true) (h:∀v L' R',Post v L' R'→LJ P n all rest (upd t d v) L' R' Q):LJ P n all (⟨some d,op,ty,pos,after,none⟩ :: rest) t L R Q:=
  Uhb hg rfl hd h
theorem Ye {Post:Yn} (hg:Gives P ⟨none,op,ty,pos,after,none⟩ (ev t) L R Post) (h:∀v L' R',Post v L' R'→LJ P n all rest t L' R' Q):LJ P n all (⟨none,op,ty,pos,after,none⟩ :: rest) t L R Q:=
  Uhb hg rfl rfl h
end
def Y3a (j:Nat) (want:Bool) (l:List Oper):List Oper:=
  l.map fun o=>match o.guard with
    | some (k,w)=>bif Nat.beq k j && (w == want) then { o with guard:=none } else o
    | none=>o
def U4a (all : Array Oper) (j : Nat) (want : Bool) (cj : Nat) : List Nat → List Oper → Bool
  | _,[]=>true
  | ds,o :: l=>
    (match o.guard with
     | some (k,w)=>(Nat.beq k j && (w == want)) || (match (all[k]?).bind (·.dst) with
        | some d=>Yhb d ds
        | none=>false)
     | none=>false) &&
    (match o.dst with
     | some d=>!Nat.beq d cj && U4a all j want cj (d :: ds) l
     | none=>U4a all j want cj ds l)
def Yic : List Oper → List Nat
  | []=>[]
  | o :: l=>match o.dst with
    | some d=>d :: Yic l
    | none=>Yic l
def J2 (ws : List Nat) (t : Nat → Value) (x : Operand) (v : Bool) (L : List Blk) (R : List Sl) : Kp
  | .normal,t',L',R'=>ev t' x=.bool v∧L'=L∧R'=R∧Off ws t t'
  | _,_,_,_=>False
end Go.Aw
end
section
namespace Go.Aw
open Go
theorem Vq {P:Program} {o:Oper} {ρ:Operand→Value} {a:Act} {next:Act→World→Prop} {Q:Exit→Act→World→Prop} {w w':World} {v:Value} (h:(execOp ρ o).run P w=.ok (.value v) w') (k:next (a.put o.dst v) w'):o.upon P a next Q ((execOp ρ o).run P w):=by
  rw [h];exact k
theorem U5b {P:Program} {o:Oper} {ρ:Operand→Value} {a:Act} {next:Act→World→Prop} {Q:Exit→Act→World→Prop} {w w':World} (h:(execOp ρ o).run P w=.ok .skip w') (k:next (a.put o.dst undef) w'):o.upon P a next Q ((execOp ρ o).run P w):=by
  rw [h];exact k
theorem St.alloc {c:Ctx} {L:List Blk} {R:List Sl} {w:World} (h:St c L R w) (cs:Array Value) (T:TypeId):St c (⟨w.heap.size,cs.toList,T⟩ :: L) R (w.alloc (.cells cs T)):=by
  obtain ⟨⟨G,hh,hg⟩,ho,hk⟩:=h
  have old:∀b,b < w.heap.size→(w.alloc (.cells cs T)).heap[b]?=w.heap[b]?:=fun b hb=>by
    show (w.heap.push _)[b]?=_
    rw [Array.getElem?_push,if_neg za]
  refine ⟨⟨G,⟨?_,?_,?_,fun b hb=>?_,fun r hr=>(hh.rep r hr).mono (fun _ h=>h) (fun b hb=>old b (hh.gs b hb))⟩,hg⟩,?_,⟨hk.os,hk.tape,hk.output,?_,fun b hb hn=>?_,fun a=>?_⟩⟩
  · simp only [List.map_cons, List.nodup_cons]
    refine ⟨fun hm=>?_,hh.nd⟩
    obtain ⟨e,he,hb⟩:=List.mem_map.1 hm
    have:=hh.lt he
    omega
  · intro e he
    rcases List.mem_cons.1 he with rfl | he
    · show (w.heap.push _)[w.heap.size]? = _
      simp [BT.obj]
    · rw [old _ (hh.lt he)];exact hh.own e he
  · intro e he
    rcases List.mem_cons.1 he with rfl | he
    · exact fun h=>absurd (hh.gs _ h) (Nat.lt_irrefl _)
    · exact hh.ng e he
  · have := hh.gs b hb
    simp;omega
  · intro e he
    rcases List.mem_cons.1 he with rfl | he
    · exact .inr hk.size
    · exact ho e he
  · have := hk.size
    simp;omega
  · rw [old b (Nat.lt_of_lt_of_le hb hk.size)];exact hk.block b hb hn
  · rw [RowKit.frozen?_alloc_cells];exact hk.frz a
theorem St.drew {c:Ctx} {L:List Blk} {R:List Sl} {w:World} (h:St c L R w):St c L R w.drew:=by
  obtain ⟨⟨G,hh,hg⟩,ho,hk⟩:=h
  exact ⟨⟨G,⟨hh.nd,hh.own,hh.ng,hh.gs,fun r hr=>Rep.mono (w:=w) (w':=w.drew) (G:=G) (fun _ h=>h) (fun _ _=>rfl) (hh.rep r hr)⟩,hg⟩,ho,⟨hk.os,hk.tape,hk.output,hk.size,hk.block,hk.frz⟩⟩
inductive Upd1 (b : Nat) (cs : List Value) (T : TypeId) (cs' : List Value) : List Blk → List Blk → Prop
  | here {L}:Upd1 b cs T cs' (⟨b,cs,T⟩ :: L) (⟨b,cs',T⟩ :: L)
  | cons {x L L'} (h:Upd1 b cs T cs' L L'):Upd1 b cs T cs' (x :: L) (x :: L')
  | app {X L L'} (h:Upd1 b cs T cs' L L'):Upd1 b cs T cs' (X ++ L) (X ++ L')
theorem Upd1.mem {b cs T cs' L L'} (h:Upd1 b cs T cs' L L'):(⟨b,cs,T⟩:Blk)∈L:=by
  induction h with
  | here=>simp
  | cons _ ih=>exact List.mem_cons_of_mem _ ih
  | app _ ih=>exact List.mem_append_right _ ih
theorem Upd1.bs {b cs T cs' L L'} (h:Upd1 b cs T cs' L L'):L'.map (·.b)=L.map (·.b):=by
  induction h with
  | here=>rfl
  | cons _ ih=>simp [ih]
  | app _ ih=>simp [ih]
theorem Upd1.back {b cs T cs' L L'} (h:Upd1 b cs T cs' L L'):∀e∈L',e=⟨b,cs',T⟩∨e∈L:=by
  induction h with
  | here=>intro e he;rcases List.mem_cons.1 he with h | h;exact .inl h;exact .inr (List.mem_cons_of_mem _ h)
  | cons _ ih=>intro e he;rcases List.mem_cons.1 he with h | h;exact .inr (by rw [h];simp);exact (ih e h).imp id (List.mem_cons_of_mem _)
  | app _ ih=>intro e he;rcases List.mem_append.1 he with h | h;exact .inr (List.mem_append_left _ h);exact (ih e h).imp id (List.mem_append_right _)
theorem K2c (w:World) (g:Nat) (cs:Array Value) (a:Addr):(w.setRow g cs).frozen? a=w.frozen? a:=by
  by_cases h:a.block=g
  · subst h
    unfold World.frozen?
    cases hb:w.heap[a.block]? with
    | none=>simp [World.setRow,Array.getElem?_modify,hb]
    | some o=>cases o <;> simp [World.setRow,Array.getElem?_modify,hb]
  · exact World.frozen?_of_block (w:=w) (setRow_other w g _ cs h)
theorem St.setRow {c:Ctx} {L L':List Blk} {R:List Sl} {w:World} {b:Nat} {cs cs':List Value} {T:TypeId} (h:St c L R w) (hu:Upd1 b cs T cs' L L'):St c L' R (w.setRow b cs'.toArray):=by
  obtain ⟨⟨G,hh,hg⟩,ho,hk⟩:=h
  have hb:=hh.own _ hu.mem
  have hbG:=hh.ng _ hu.mem
  have nd':(L'.map (·.b)).Nodup:=by rw [hu.bs];exact hh.nd
  -- an entry of L' with the number b is the new one
  have same:∀e∈L',e.b=b→e=⟨b,cs',T⟩:=by
    have:∀{L L':List Blk},Upd1 b cs T cs' L L'→(L.map (·.b)).Nodup→∀e∈L',e.b=b→e=⟨b,cs',T⟩:=by
      intro L L' hu
      induction hu with
      | here=>
        intro nd e he hb
        rcases List.mem_cons.1 he with h | h
        · exact h
        · simp only [List.map_cons, List.nodup_cons] at nd
          exact absurd (List.mem_map.2 ⟨e,h,hb⟩) nd.1
      | cons hu ih=>
        intro nd e he hb
        simp only [List.map_cons,List.nodup_cons] at nd
        rcases List.mem_cons.1 he with h | h
        · refine absurd (List.mem_map.2 ⟨_, hu.mem, ?_⟩) nd.1
          rw [← h];exact hb.symm
        · exact ih nd.2 e h hb
      | app hu ih=>
        intro nd e he hb
        rw [List.map_append,List.nodup_append] at nd
        rcases List.mem_append.1 he with h | h
        · exact absurd hb (nd.2.2 e.b (List.mem_map.2 ⟨e,h,rfl⟩) b (List.mem_map.2 ⟨_,hu.mem,rfl⟩))
        · exact ih nd.2.1 e h hb
    exact this hu hh.nd
  refine ⟨⟨G,⟨nd',fun e he=>?_,fun e he=>?_,fun x hx=>by simpa using hh.gs x hx,fun r hr=>(hh.rep r hr).mono (fun _ h=>h) (fun x hx=>setRow_other w b x _ (fun e=>hbG (e ▸ hx)))⟩,hg⟩,fun e he=>?_,⟨hk.os,hk.tape,hk.output,by simpa using hk.size,fun x hx hn=>?_,fun a=>?_⟩⟩
  · by_cases hbe : e.b = b
    · rw [same e he hbe]
      exact setRow_heap w b _ _ T _ hb
    · rw [setRow_other w b _ _ hbe]
      rcases hu.back e he with h | h
      · exact absurd (by rw [h]) hbe
      · exact hh.own e h
  · rcases hu.back e he with h | h
    · rw [h];exact hbG
    · exact hh.ng e h
  · rcases hu.back e he with h | h
    · have := ho _ hu.mem
      rw [h];exact this
    · exact ho e h
  · by_cases hxb : x = b
    · subst hxb
      rcases ho _ hu.mem with h | h
      · exact absurd h hn
      · exact absurd h (Nat.not_le.2 hx)
    · rw [setRow_other w b x _ hxb];exact hk.block x hx hn
  · rw [K2c];exact hk.frz a
section
variable {P:Program} {ρ:Operand→Value} {L L':List Blk} {R:List Sl} {dst:Option Tmp} {ty:TypeId} {pos:String} {after:Array Edge} {guard:Option (Nat×Bool)} (tb:Tabs P) {T:TypeId} {x y:Operand}
theorem J4 {k n fl bt z} (hT:V0 tb.tab T=some ⟨k,n,fl,bt,z⟩):
    Gives P ⟨dst,.alloc T,ty,pos,after,guard⟩ ρ L R (fun v L' R'=>∃b,v=.pointer (some ⟨b,0,none⟩)∧L'=⟨b,z,T⟩ :: L∧R'=R):=by
  intro c w hs a next Q kk
  obtain ⟨zv,hz1,hz2⟩:=Zp (tb.ok _ _ hT) w
  simp only at hz2
  refine Vq (w':=w.alloc (.cells zv.cells T)) (v:=.pointer (some ⟨w.heap.size,0,none⟩)) ?_ (kk _ _ _ _ ⟨w.heap.size,rfl,rfl,rfl⟩ ?_)
  · simp [execOp,Instr.alloc,hz1,newVar,newRow]
  · rw [← hz2];exact hs.alloc _ _
theorem Uzd {v:Value} (hx:ρ x=v) (h1:v.oneCell'=true):
    Gives P ⟨dst,.box T x,ty,pos,after,guard⟩ ρ L R (fun u L' R'=>∃b,u=.pointer (some ⟨b,0,none⟩)∧L'=⟨b,[v],T⟩ :: L∧R'=R):=by
  intro c w hs a next Q kk
  have hc:v.cells=#[v]:=by cases v <;> first | rfl | (simp [Value.oneCell'] at h1)
  refine Vq (w':=w.alloc (.cells #[v] T)) (v:=.pointer (some ⟨w.heap.size,0,none⟩)) ?_ (kk _ _ _ _ ⟨w.heap.size,rfl,rfl,rfl⟩ (hs.alloc _ _))
  simp [execOp,hx,Instr.box,newVar,newRow,hc]
theorem U9d {row:List Value} (hx:ρ x=.agg row.toArray):
    Gives P ⟨dst,.box T x,ty,pos,after,guard⟩ ρ L R (fun u L' R'=>∃b,u=.pointer (some ⟨b,0,none⟩)∧L'=⟨b,row,T⟩ :: L∧R'=R):=by
  intro c w hs a next Q kk
  refine Vq (w':=w.alloc (.cells row.toArray T)) (v:=.pointer (some ⟨w.heap.size,0,none⟩)) ?_ (kk _ _ _ _ ⟨w.heap.size,rfl,rfl,rfl⟩ (hs.alloc _ _))
  simp [execOp,hx,Instr.box,newVar,newRow,Value.cells]
theorem Uda {c : Ctx} {w : World} (hs : St c L R w) {b o : Nat} {cs vs : List Value} {T' : TypeId} {ti : TI} (hT : Zg P T = some ti) (hn : vs.length = ti.sz) (hu : Upd1 b cs T' (cs.take o ++ vs ++ cs.drop (o + vs.length)) L L')
    (hfit:o + vs.length≤cs.length) (h1:∀v∈vs,v.oneCell'=true) {val:Value} (hv:val.cells=vs.toArray):
    (storeVar T ⟨b,o,none⟩ val).run P w=.ok () (w.setRow b (cs.take o ++ vs ++ cs.drop (o + vs.length)).toArray):=by
  have hb:w.heap[b]?=some (.cells cs.toArray T' (0,0)):=by
    obtain ⟨⟨G,hh,_⟩,_,_⟩:=hs
    exact hh.own _ hu.mem
  have hst:=run_storeCells_at P b o T' vs 0 cs.toArray w hb (by simpa using hfit) h1
  simp only [Nat.add_zero] at hst
  simp only [storeVar,Sem.run_bind,run_sizeOf hT,Result.andThen_ok,hv]
  simp [hn,hst]
theorem Kib {k n fl bt z b o} {cs vs cs' : List Value} {T' : TypeId} (hT : V0 tb.tab T = some ⟨k, n, fl, bt, z⟩) (hx : ρ x = .pointer (some ⟨b, o, none⟩)) (hy : ρ y = .agg vs.toArray) (hn : vs.length = n)
    (hu:Upd1 b cs T' cs' L L') (hfit:Nat.ble (o + vs.length) cs.length=true) (hcs:cs.take o ++ vs ++ cs.drop (o + vs.length)=cs') (h1:vs.all (·.oneCell')=true):
    Gives P ⟨none,.store T x y,ty,pos,after,guard⟩ ρ L R (fun _ L'' R'=>L''=L'∧R'=R):=by
  intro c w hs a next Q kk
  subst hcs
  have:=Uda (P:=P) hs (tb.ok _ _ hT) hn hu (Nat.le_of_ble_eq_true hfit) (List.all_eq_true.1 h1) (val:=.agg vs.toArray) rfl
  refine U5b (w':=w.setRow b _) ?_ (kk undef L' R _ ⟨rfl,rfl⟩ (hs.setRow hu))
  simp [execOp,hx,hy,Instr.storeAt,Instr.sureAddr,this]
theorem Ybe (cs:List Value) (o:Nat) (v:Value) (h:o < cs.length):cs.take o ++ [v] ++ cs.drop (o + 1)=cs.set o v:=by
  rw [List.set_eq_take_append_cons_drop,if_pos h]
  simp
theorem Kqb {k n fl bt z b o} {cs cs' : List Value} {v : Value} {T' : TypeId} (hT : V0 tb.tab T = some ⟨k, n, fl, bt, z⟩) (hx : ρ x = .pointer (some ⟨b, o, none⟩)) (hy : ρ y = v) (hn : n = 1)
    (hu:Upd1 b cs T' cs' L L') (hfit:Nat.blt o cs.length=true) (hcs:cs.set o v=cs') (h1:v.oneCell'=true):
    Gives P ⟨none,.store T x y,ty,pos,after,guard⟩ ρ L R (fun _ L'' R'=>L''=L'∧R'=R):=by
  intro c w hs a next Q kk
  have hlt:o < cs.length:=by simpa using hfit
  subst hcs
  rw [← Ybe cs o v hlt] at hu
  have hc:v.cells=#[v]:=by cases v <;> first | rfl | (simp [Value.oneCell'] at h1)
  have:=Uda (P:=P) (vs:=[v]) hs (tb.ok _ _ hT) (by simp [hn]) hu (by simpa using Nat.succ_le_of_lt hlt) zda hc
  refine U5b (w':=w.setRow b _) ?_ (kk undef L' R _ ⟨rfl,rfl⟩ (hs.setRow hu))
  simp [execOp,hx,hy,Instr.storeAt,Instr.sureAddr,this]
def J5c : List Value → Nat → List Value → List Value
  | cs,_,[]=>cs
  | cs,o,v :: vs=>J5c (cs.set o v) (o + 1) vs
def Jee (fl : List (Nat × Nat)) (cs : List Value) : List (Nat × List Value) → Option (List Value)
  | []=>some cs
  | (i,vs) :: rest=>match fl[i]? with
    | some (off,size)=>bif Nat.beq vs.length size && Nat.ble (off + vs.length) cs.length then Jee fl (J5c cs off vs) rest else none
    | none=>none
theorem Vib : ∀ (vs : List Value) (off j : Nat) (cs : Array Value), (vs.zipIdx j).foldl (fun cs (p : Value × Nat) => cs.setIfInBounds (off + p.2) p.1) cs = (J5c cs.toList (off + j) vs).toArray
  | [],_,_,cs=>by simp [J5c]
  | v :: vs,off,j,cs=>by
    simp only [List.zipIdx_cons,List.foldl_cons,J5c]
    rw [Vib vs off (j + 1)]
    simp [Nat.add_assoc]
theorem Zod (fl:List (Nat×Nat)) (place:Nat→Option (Nat×Nat)) (hp:∀i,place i=fl[i]?):∀(parts:List (Nat×Value)) (cs:List Value) (out:List Value),
    Jee fl cs (parts.map fun p=>(p.1,p.2.cells.toList))=some out→Instr.fill place cs.toArray parts=some out.toArray
  | [],cs,out,h=>by simp only [List.map_nil,Jee,Option.some.injEq] at h;simp [Instr.fill,h]
  | (i,v) :: rest,cs,out,h=>by
    simp only [List.map_cons,Jee] at h
    simp only [Instr.fill,hp]
    cases hf:fl[i]? with
    | none=>rw [hf] at h;cases h
    | some p=>
      obtain ⟨off,size⟩:=p
      rw [hf] at h
      simp only at h
      cases hb:(Nat.beq v.cells.toList.length size && Nat.ble (off + v.cells.toList.length) cs.length) with
      | false=>rw [hb] at h;cases h
      | true=>
        rw [hb,cond_true] at h
        simp only [Bool.and_eq_true,Nat.beq_eq,Nat.ble_eq,Array.length_toList] at hb
        have:=Zod fl place hp rest _ out h
        simp only
        rw [if_neg (by simp [hb.1];omega)]
        have hz:v.cells.zipIdx.foldl (fun cs (x:Value×Nat)=>cs.setIfInBounds (off + x.2) x.1) cs.toArray=(J5c cs off v.cells.toList).toArray:=by
          rw [← Array.foldl_toList]
          have:=Vib v.cells.toList off 0 cs.toArray
          simpa using this
        rw [show (v.cells.zipIdx.foldl (fun cs (c,j)=>cs.setIfInBounds (off + j) c) cs.toArray)=(J5c cs off v.cells.toList).toArray from hz]
        exact this
def evP (ρ : Operand → Value) : List (Nat × Operand) → List (Nat × List Value)
  | []=>[]
  | (i,x) :: l=>(i,(ρ x).cells.toList) :: evP ρ l
theorem V6e (ρ:Operand→Value) (l:List (Nat×Operand)):evP ρ l=(l.map fun p=>(p.1,ρ p.2)).map fun p=>(p.1,p.2.cells.toList):=by
  induction l with
  | nil=>rfl
  | cons p l ih=>obtain ⟨i,x⟩:=p;simp [evP,ih]
theorem U7d (w:World):∀(l:List Field),(∀f∈l,((P.info? f.type).map (·.size)).getD 0≠0)→
    (l.mapM fun f=>(do pure (f.offset,← sizeOf f.type):Sem (Nat×Nat))).run P w=.ok (l.map fun f=>(f.offset,((P.info? f.type).map (·.size)).getD 0)) w:=by
  intro l
  induction l with
  | nil=>intro _;simp
  | cons f l ih=>
    intro hl
    have h1:=hl f zo
    cases hj:P.info? f.type with
    | none=>rw [hj] at h1;simp at h1
    | some j=>
      have ih':=ih fun g hg=>hl g (by simp [hg])
      have hs:(sizeOf f.type).run P w=.ok j.size w:=by simp [sizeOf,typeInfo,hj]
      rw [List.mapM_cons]
      simp only [Sem.run_bind,hs,Result.andThen_ok,Sem.run_pure,ih',List.map_cons,hj,Option.map_some,Option.getD_some]
theorem Kb {n fl bt z} {ps:List (Nat×Operand)} {qs:List (Nat×List Value)} {out:List Value} (hT:V0 tb.tab T=some ⟨.struct,n,fl,bt,z⟩) (hz0:fl.all (fun p=>!Nat.beq p.2 0)=true) (hq:evP ρ ps=qs) (hf:Jee fl z qs=some out):
    YV P ⟨dst,.build T ps.toArray,ty,pos,after,guard⟩ ρ L R (.agg out.toArray):=fun _ w _=>by
  obtain ⟨fs,hu,hfl⟩:=Vka (tb.ok _ _ hT) rfl
  obtain ⟨zv,hz1,hz2⟩:=Zp (tb.ok _ _ hT) w
  simp only at hfl hz2
  subst hq
  rw [V6e] at hf
  have hall:∀f∈fs.toList,((P.info? f.type).map (·.size)).getD 0≠0:=by
    intro f hm h0
    rw [hfl,List.all_map,List.all_eq_true] at hz0
    have:=hz0 f hm
    simp [h0] at this
  have hpl:=U7d (P:=P) w fs.toList hall
  rw [← hfl] at hpl
  have hfill:=Zod fl (fun i=>fl.toArray[i]?) (fun i=>by simp) (ps.map fun p=>(p.1,ρ p.2)) z out hf
  have hzc:zv.cells=z.toArray:=by rw [← hz2]
  have hmap:(ps.toArray.map fun (p:Nat×Operand)=>(p.1,ρ p.2)).toList=ps.map fun p=>(p.1,ρ p.2):=by simp
  have hfs:fs=fs.toList.toArray:=by simp
  have hm:(fs.mapM fun f=>(do pure (f.offset,← sizeOf f.type):Sem (Nat×Nat))).run P w=.ok fl.toArray w:=by
    rw [hfs,List.mapM_toArray]
    simp only [Sem.run_map,hpl,Result.andThen_ok]
  have hgoal:(Instr.build T (ps.toArray.map fun (p:Nat×Operand)=>(p.1,ρ p.2))).run P w=.ok (.agg out.toArray) w:=by
    unfold Instr.build
    simp only [Sem.run_bind,hz1,Result.andThen_ok,run_underlying hu,hm,hzc,hmap]
    rw [hfill]
    simp
  show (execOp ρ ⟨dst,.build T ps.toArray,ty,pos,after,guard⟩).run P w=_
  have e:execOp ρ ⟨dst,.build T ps.toArray,ty,pos,after,guard⟩=(do pure (.value (← Instr.build T (ps.toArray.map fun (p:Nat×Operand)=>(p.1,ρ p.2))))):=rfl
  rw [e]
  simp only [Sem.run_bind,hgoal,Result.andThen_ok]
  rfl
end
end Go.Aw
end
section
namespace Go.Aw
open Go
section
variable {P:Program} {n:Nat} {all:Array Oper} {ty:TypeId} {pos:String} {after:Array Edge} {rest:List Oper} {t:Nat→Value} {L L':List Blk} {R:List Sl} {Q:Kp} {d:Tmp} (tb:Tabs P) {T:TypeId} {x y:Operand}
theorem Js {f : FuncId} {xs : List Operand} {ts : Array TypeId} {args : List Value} {Post : Yn} (ha : xs.map (ev t) = args) (h : Tri P f args.toArray L R Post) (hd : Nat.blt d n = true)
    (k:∀v L' R',Post v L' R'→LJ P n all rest (upd t d v) L' R' Q):LJ P n all (⟨some d,.call ⟨.value (.func f),xs.toArray,ts⟩,ty,pos,after,none⟩ :: rest) t L R Q:=
  Y9 (K3a zna rfl h) hd k
theorem K3e {k m fl bt z} (hT : V0 tb.tab T = some ⟨k, m, fl, bt, z⟩) (hd : Nat.blt d n = true)
    (h:∀b,LJ P n all rest (upd t d (.pointer (some ⟨b,0,none⟩))) (⟨b,z,T⟩ :: L) R Q):LJ P n all (⟨some d,.alloc T,ty,pos,after,none⟩ :: rest) t L R Q:=
  Y9 (J4 tb hT) hd fun v L' R' ⟨b,e1,e2,e3⟩=>by subst e1;subst e2;subst e3;exact h b
theorem Jpd {v : Value} (hx : ev t x = v) (h1 : v.oneCell' = true) (hd : Nat.blt d n = true)
    (h:∀b,LJ P n all rest (upd t d (.pointer (some ⟨b,0,none⟩))) (⟨b,[v],T⟩ :: L) R Q):LJ P n all (⟨some d,.box T x,ty,pos,after,none⟩ :: rest) t L R Q:=
  Y9 (Uzd hx h1) hd fun v L' R' ⟨b,e1,e2,e3⟩=>by subst e1;subst e2;subst e3;exact h b
theorem Z3e {row : List Value} (hx : ev t x = .agg row.toArray) (hd : Nat.blt d n = true)
    (h:∀b,LJ P n all rest (upd t d (.pointer (some ⟨b,0,none⟩))) (⟨b,row,T⟩ :: L) R Q):LJ P n all (⟨some d,.box T x,ty,pos,after,none⟩ :: rest) t L R Q:=
  Y9 (U9d hx) hd fun v L' R' ⟨b,e1,e2,e3⟩=>by subst e1;subst e2;subst e3;exact h b
theorem Voa {k m fl bt z b o} {cs cs' : List Value} {v : Value} {T' : TypeId} (hT : V0 tb.tab T = some ⟨k, m, fl, bt, z⟩) (hx : ev t x = .pointer (some ⟨b, o, none⟩)) (hy : ev t y = v) (hn : m = 1)
    (hu:Upd1 b cs T' cs' L L') (hfit:Nat.blt o cs.length=true) (hcs:cs.set o v=cs') (h1:v.oneCell'=true)
    (h:LJ P n all rest t L' R Q):LJ P n all (⟨none,.store T x y,ty,pos,after,none⟩ :: rest) t L R Q:=
  Ye (Kqb tb hT hx hy hn hu hfit hcs h1) fun _ L'' R' ⟨e1,e2⟩=>by subst e1;subst e2;exact h
theorem Kca {k m fl bt z b o} {cs vs cs' : List Value} {T' : TypeId} (hT : V0 tb.tab T = some ⟨k, m, fl, bt, z⟩) (hx : ev t x = .pointer (some ⟨b, o, none⟩)) (hy : ev t y = .agg vs.toArray) (hn : vs.length = m)
    (hu:Upd1 b cs T' cs' L L') (hfit:Nat.ble (o + vs.length) cs.length=true) (hcs:cs.take o ++ vs ++ cs.drop (o + vs.length)=cs') (h1:vs.all (·.oneCell')=true)
    (h:LJ P n all rest t L' R Q):LJ P n all (⟨none,.store T x y,ty,pos,after,none⟩ :: rest) t L R Q:=
  Ye (Kib tb hT hx hy hn hu hfit hcs h1) fun _ L'' R' ⟨e1,e2⟩=>by subst e1;subst e2;exact h
theorem Z0d {k m fl bt z b} {cs vs : List Value} {T' : TypeId} (hT : V0 tb.tab T = some ⟨k, m, fl, bt, z⟩) (hx : ev t x = .pointer (some ⟨b, 0, none⟩)) (hy : ev t y = .agg vs.toArray) (hn : vs.length = m)
    (hu:Upd1 b cs T' vs L L') (hfit:vs.length=cs.length) (h1:vs.all (·.oneCell')=true)
    (h:LJ P n all rest t L' R Q):LJ P n all (⟨none,.store T x y,ty,pos,after,none⟩ :: rest) t L R Q:=
  Kca tb hT hx hy hn hu (by simp [hfit]) (by simp [hfit]) h1 h
end
theorem Oper.wp_put {P:Program} {o:Oper} {a:Act} {w:World} {K:Act→World→Prop} {Q:Exit→Act→World→Prop} (h:o.wp P a w K Q):
    o.wp P a w (fun a' w'=>K a' w'∧∃v,a'.tmps=(a.put o.dst v).tmps) Q:=by
  unfold Oper.wp at *
  generalize (execOp a.eval o).run P w=r at *
  cases r with
  | ok x w'=>
    cases x <;> simp only [Oper.upon] at h ⊢ <;>
      first
        | exact ⟨h,_,rfl⟩
        | exact Calls.mono h (fun e w'' he=>by cases e <;> first | exact ⟨he,_,rfl⟩ | exact he)
        | exact Rows.mono h (fun _ _ he=>⟨he,_,rfl⟩)
        | exact h
        | skip
    case defer d=>exact ⟨h,undef,by cases o.dst <;> rfl⟩
  | halt x w'=>cases x <;> exact h
theorem Zna {P : Program} {all : Array Oper} {j : Nat} {want : Bool} {cj : Nat} {Q Q' : Exit → Act → World → Prop} {tail : List Oper} (hj : (all[j]?).bind (·.dst) = some cj)
    (hQ:∀e a w,e≠.normal→Q e a w→Q' e a w) (hT:∀a w,Q .normal a w→wpList P all Q' tail a w):
    ∀(G:List Oper) (ds:List Nat),U4a all j want cj ds G=true→∀(a:Act) (w:World),a.tmps[cj]?=some (.bool want)→
      wpList P all Q (Y3a j want G) a w→wpList P all Q' (G ++ tail) a w
  | [],_,_,a,w,_,h=>hT a w h
  | o :: G,ds,hok,a,w,hc,h=>by
    simp only [U4a,Bool.and_eq_true] at hok
    obtain ⟨hg,hrest⟩:=hok
    have hyj:yielded all a.tmps j=some want:=by
      unfold yielded
      rw [hj]
      simp [hc]
    -- the stripped operation runs as the operation itself
    have hsame:∃o',Y3a j want (o :: G)=o' :: Y3a j want G∧o'.op=o.op∧o'.dst=o.dst∧o'.type=o.type∧Region.wanted o' (yielded all a.tmps)=Region.wanted o (yielded all a.tmps):=by
      cases hgd:o.guard with
      | none=>exact ⟨o,by simp [Y3a,hgd],rfl,rfl,rfl,rfl⟩
      | some p=>
        obtain ⟨k,wk⟩:=p
        cases hb:(Nat.beq k j && (wk == want)) with
        | false=>exact ⟨o,by simp [Y3a,hgd,hb],rfl,rfl,rfl,rfl⟩
        | true=>
          simp only [Bool.and_eq_true,Nat.beq_eq,beq_iff_eq] at hb
          refine ⟨{ o with guard:=none },by simp [Y3a,hgd,hb.1,hb.2],rfl,rfl,rfl,?_⟩
          simp [Region.wanted,hgd,hb.1,hb.2,hyj]
    obtain ⟨o',e1,e2,e3,e4,e5⟩:=hsame
    rw [e1] at h
    have next:∀(a':Act) (w':World) (v:Value),a'.tmps=(a.put o.dst v).tmps→wpList P all Q (Y3a j want G) a' w'→wpList P all Q' (G ++ tail) a' w':=by
      intro a' w' v hv h'
      have hc':a'.tmps[cj]?=some (.bool want):=by
        rw [hv]
        cases hd:o.dst with
        | none=>exact hc
        | some d=>
          rw [hd] at hrest
          simp only [Bool.and_eq_true,Bool.not_eq_true'] at hrest
          have hne:d≠cj:=fun e=>by rw [e] at hrest;simp at hrest
          simp only [Act.put]
          rw [Array.getElem?_setIfInBounds_ne hne]
          exact hc
      cases hd:o.dst with
      | none=>rw [hd] at hrest;exact Zna hj hQ hT G ds hrest a' w' hc' h'
      | some d=>rw [hd] at hrest;simp only [Bool.and_eq_true] at hrest;exact Zna hj hQ hT G _ hrest.2 a' w' hc' h'
    have hexec:∀a:Act,execOp a.eval o'=execOp a.eval o:=by
      intro a
      obtain ⟨od,oo,ot,op,oa,og⟩:=o
      obtain ⟨pd,po,pt,pp,pa,pg⟩:=o'
      simp only at e2 e3 e4
      subst e2;subst e3;subst e4
      rfl
    simp only [List.cons_append]
    unfold wpList at h ⊢
    rw [e5] at h
    split
    · rename_i hw
      rw [if_pos hw] at h
      rcases h with h | ⟨h,h2⟩
      · refine .inl ?_
        have h':=Oper.wp_put h
        unfold Oper.wp at h' ⊢
        rw [hexec] at h'
        generalize (execOp a.eval o).run P w=r at *
        cases r with
        | ok x w'=>
          cases x <;> simp only [Oper.upon, e3] at h' ⊢ <;>
            first
              | (obtain ⟨h1,v,hv⟩:=h';exact next _ _ v hv h1)
              | exact h'
              | skip
          case enter f args=>
            refine Calls.mono h' fun e w'' he=>?_
            cases e with
            | returned u=>obtain ⟨h1,v,hv⟩:=he;exact next _ _ v hv h1
            | panicked c=>exact hQ _ _ _ zo he
            | outgrown=>obtain ⟨a0,w0,he⟩:=he;exact ⟨a0,w0,hQ _ _ _ zo he⟩
          case row row args=>exact Rows.mono h' fun u w'' he=>by obtain ⟨h1,v,hv⟩:=he;exact next _ _ v hv h1
        | halt x w'=>
          cases x <;> simp only [Oper.upon] at h' ⊢ <;> first | exact h' | exact hQ _ _ _ zo h'
      · refine .inr ⟨?_, ?_⟩
        · unfold Oper.asks at *
          rw [hexec] at h
          exact h
        · obtain ⟨a0,w0,he⟩:=h2;exact ⟨a0,w0,hQ _ _ _ zo he⟩
    · rename_i hw
      rw [if_neg hw,e3] at h
      exact next _ _ undef rfl h
theorem Jwb {P:Program} {all:Array Oper} {j:Nat} {want:Bool} {cj:Nat} {Q':Exit→Act→World→Prop} {tail:List Oper} (hj:(all[j]?).bind (·.dst)=some cj):
    ∀(G:List Oper) (ds:List Nat),U4a all j want cj ds G=true→∀(a:Act) (w:World),a.tmps[cj]?=some (.bool (!want))→(∀d,Yhb d ds=true→a.tmps.getD d undef=undef)→
      (∀a':Act,a'.defers=a.defers→a'.tmps.size=a.tmps.size→(∀d,Yhb d (Yic G)=false→a'.tmps.getD d undef=a.tmps.getD d undef)→wpList P all Q' tail a' w)→wpList P all Q' (G ++ tail) a w
  | [],_,_,a,w,_,_,h=>h a rfl rfl (fun _ _=>rfl)
  | o :: G,ds,hok,a,w,hc,hds,h=>by
    simp only [U4a,Bool.and_eq_true] at hok
    obtain ⟨hg,hrest⟩:=hok
    have hw:Region.wanted o (yielded all a.tmps)=false:=by
      cases hgd:o.guard with
      | none=>rw [hgd] at hg;cases hg
      | some p=>
        obtain ⟨k,wk⟩:=p
        rw [hgd] at hg
        simp only [Bool.or_eq_true,Bool.and_eq_true,Nat.beq_eq,beq_iff_eq] at hg
        unfold Region.wanted
        rw [hgd]
        rcases hg with ⟨hk,hwk⟩ | hg
        · subst hk; subst hwk
          have:yielded all a.tmps k=some (!wk):=by unfold yielded;rw [hj];simp [hc]
          simp only [this]
          cases wk <;> rfl
        · cases hd:(all[k]?).bind (·.dst) with
          | none=>rw [hd] at hg;cases hg
          | some d=>
            rw [hd] at hg
            have h0:=hds d hg
            have:yielded all a.tmps k=none:=by
              unfold yielded
              rw [hd]
              simp only [Option.bind_some]
              rcases Nat.lt_or_ge d a.tmps.size with h' | h'
              · simp only [Array.getD_eq_getD_getElem?, Array.getElem?_eq_getElem h', Option.getD_some] at h0
                rw [Array.getElem?_eq_getElem h',h0]
                rfl
              · rw [Array.getElem?_eq_none h']
            simp [this]
    simp only [List.cons_append]
    unfold wpList
    rw [hw,if_neg zo]
    cases hd:o.dst with
    | none=>
      rw [hd] at hrest
      refine Jwb hj G ds hrest a w hc hds ?_
      intro a' h1 h2 h3
      exact h a' h1 h2 (by simpa [Yic,hd] using h3)
    | some d=>
      rw [hd] at hrest
      simp only [Bool.and_eq_true,Bool.not_eq_true'] at hrest
      have hne:d≠cj:=fun e=>by have:=hrest.1;rw [e] at this;simp at this
      refine Jwb hj G (d :: ds) hrest.2 _ w ?_ ?_ ?_
      · simp only [Act.put]
        rw [Array.getElem?_setIfInBounds_ne hne]
        exact hc
      · intro x hx
        simp only [Act.put]
        by_cases hxd:x=d
        · subst hxd
          rcases Nat.lt_or_ge x a.tmps.size with h' | h'
          · simp [h']
          · simp [h']
        · simp only [Yhb, Yjd hxd, cond_false] at hx
          have:=hds x hx
          simp only [Array.getD_eq_getD_getElem?] at this ⊢
          rw [Array.getElem?_setIfInBounds_ne (Ne.symm hxd)]
          exact this
      · intro a' h1 h2 h3
        refine h a' h1 (by rw [h2];simp [Act.put]) (fun x hx=>?_)
        simp only [Yic,hd,Yhb] at hx
        have hxd:x≠d:=fun e=>by rw [e] at hx;simp at hx
        rw [Yjd hxd,cond_false] at hx
        rw [h3 x hx]
        simp only [Act.put,Array.getD_eq_getD_getElem?]
        rw [Array.getElem?_setIfInBounds_ne (Ne.symm hxd)]
section
variable {P:Program} {n:Nat} {all:Array Oper} {ty:TypeId} {pos:String} {after:Array Edge} {rest:List Oper} {t:Nat→Value} {L L':List Blk} {R:List Sl} {Q:Kp} {d:Tmp} {y:Operand}
theorem Ubd {G : List Oper} {j cj : Nat} {want u v : Bool} {c : Bool} {x1 x2 xin : Operand} (hj : (all[j]?).bind (·.dst) = some cj) (hcn : Nat.blt cj n = true) (hok : U4a all j want cj [] G = true) (hmc : Yhb cj (Yic G) = false)
    (hc:t cj=.bool c) (hd:Nat.blt d n=true)
    (hpick:(if want then x1 else x2)=xin∧(if want then x2 else x1)=.const (.bool u))
    (h:c=want→LJ P n all (Y3a j want G) t L R (J2 (Yic G) t xin v L R))
    (k:∀junk,LJ P n all rest (upd (havoc (Yic G) t junk) d (.bool (if c=want then v else u))) L R Q):
    LJ P n all (G ++ ⟨some d,.pick (.tmp cj) x1 x2,ty,pos,after,none⟩ :: rest) t L R Q:=by
  intro cx a w hf hs
  have hcn':cj < a.tmps.size:=by rw [hf.size];simpa using hcn
  have hca:a.tmps[cj]?=some (.bool c):=by
    have:=hf.val cj
    rw [hc] at this
    simpa [hcn'] using this
  have fin:∀(a':Act) (w':World) (t':Nat→Value) (b:Bool),Fr n t' a'→St cx L R w'→Off (Yic G) t t'→(if c then ev t' x1 else ev t' x2)=.bool b→b=(if c=want then v else u)→
      wpList P all (Y0a n cx Q) (⟨some d,.pick (.tmp cj) x1 x2,ty,pos,after,none⟩ :: rest) a' w':=by
    intro a' w' t' b hf' hs' ho hb e
    have hcj:ev t' (.tmp cj)=.bool c:=(ho cj hmc).trans hc
    have hy:YV P ⟨some d,.pick (.tmp cj) x1 x2,ty,pos,after,none⟩ (ev t') L R (.bool b):=by
      rw [← hb];exact Uja hcj
    refine Jx hy hd ?_ cx a' w' hf' hs'
    rw [e]
    have:=k t'
    rwa [Zo ho] at this
  by_cases hcw:c=want
  · subst hcw
    refine Zna (Q:=Y0a n cx (J2 (Yic G) t xin v L R)) hj (fun e a w hne hq=>?_) (fun a' w' hq=>?_) G [] hok a w hca (h rfl cx a w hf hs)
    · obtain ⟨_, t', L', R', hq, _⟩ := hq
      cases e <;> first | exact hq.elim | exact absurd rfl hne
    · obtain ⟨_, t', L', R', hq, hf', hs'⟩ := hq
      obtain ⟨e1,e2,e3,e4⟩:=hq
      subst e2;subst e3
      refine fin a' w' t' v hf' hs' e4 ?_ zo
      rw [← e1,← hpick.1]
      cases c <;> rfl
  · have hca' : a.tmps[cj]? = some (.bool (!want)) := by rw [hca]; cases c <;> cases want <;> simp_all
    refine Jwb hj G [] hok a w hca' (fun d hd=>by cases hd) (fun a' h1 h2 h3=>?_)
    refine fin a' w (fun k=>a'.tmps.getD k undef) u ⟨h1.trans hf.defers,h2.trans hf.size,fun _=>rfl⟩ hs (fun k hk=>(h3 k hk).trans (hf.val k)) ?_ (by rw [if_neg hcw])
    have:(if want then x2 else x1)=.const (.bool u):=hpick.2
    cases c <;> cases want <;> simp_all [ev]
theorem Ur {G : List Oper} {j cj : Nat} {v c : Bool} {xin : Operand} (hj : (all[j]?).bind (·.dst) = some cj) (hcn : Nat.blt cj n = true) (hok : U4a all j true cj [] G = true) (hmc : Yhb cj (Yic G) = false)
    (hc:t cj=.bool c) (hd:Nat.blt d n=true) (h:c=true→LJ P n all (Y3a j true G) t L R (J2 (Yic G) t xin v L R))
    (k:∀junk,LJ P n all rest (upd (havoc (Yic G) t junk) d (.bool (c && v))) L R Q):
    LJ P n all (G ++ ⟨some d,.pick (.tmp cj) xin (.const (.bool false)),ty,pos,after,none⟩ :: rest) t L R Q:=
  Ubd (want:=true) (u:=false) hj hcn hok hmc hc hd ⟨rfl,rfl⟩ h (fun junk=>by have:=k junk;cases c <;> exact this)
theorem J9 {G : List Oper} {j cj : Nat} {v c : Bool} {xin : Operand} (hj : (all[j]?).bind (·.dst) = some cj) (hcn : Nat.blt cj n = true) (hok : U4a all j false cj [] G = true) (hmc : Yhb cj (Yic G) = false)
    (hc:t cj=.bool c) (hd:Nat.blt d n=true) (h:c=false→LJ P n all (Y3a j false G) t L R (J2 (Yic G) t xin v L R))
    (k:∀junk,LJ P n all rest (upd (havoc (Yic G) t junk) d (.bool (c || v))) L R Q):
    LJ P n all (G ++ ⟨some d,.pick (.tmp cj) (.const (.bool true)) xin,ty,pos,after,none⟩ :: rest) t L R Q:=
  Ubd (want:=false) (u:=true) hj hcn hok hmc hc hd ⟨rfl,rfl⟩ h (fun junk=>by have:=k junk;cases c <;> exact this)
theorem Zyd {ws:List Nat} {t0:Nat→Value} {xin:Operand} {v:Bool} (h1:ev t xin=.bool v) (h2:Off ws t0 t):J2 ws t0 xin v L R .normal t L R:=⟨h1,rfl,rfl,h2⟩
end
end Go.Aw
end
section
namespace Go.Aw
open Go
theorem St.frame {F L L':List Blk} {R R':List Sl} {G:Nat→Prop} {w w':World} (h:Holds (F ++ L) G R w) (k:St ⟨w,inL L,G⟩ L' R' w'):St ⟨w,inL (F ++ L),G⟩ (F ++ L') R' w':=by
  obtain ⟨⟨G',hh,hg⟩,ho,hk⟩:=k
  have hnd:=h.nd
  rw [List.map_append,List.nodup_append] at hnd
  have fL:∀e∈F,¬ inL L e.b:=fun e he ⟨e',he',hb⟩=>hnd.2.2 e.b (List.mem_map.2 ⟨e,he,rfl⟩) e'.b (List.mem_map.2 ⟨e',he',rfl⟩) hb.symm
  have flt:∀e∈F,e.b < w.heap.size:=fun e he=>h.lt (List.mem_append_left _ he)
  have fG:∀e∈F,¬ G e.b:=fun e he=>h.ng e (List.mem_append_left _ he)
  have fsame:∀e∈F,w'.heap[e.b]?=w.heap[e.b]?:=fun e he=>hk.block e.b (flt e he) (fL e he)
  refine ⟨⟨G',⟨?_,fun e he=>?_,fun e he hG=>?_,hh.gs,hh.rep⟩,fun b hb=>?_⟩,fun e he=>?_,⟨hk.os,hk.tape,hk.output,hk.size,fun b hb hn=>hk.block b hb (fun hi=>hn ?_),hk.frz⟩⟩
  · rw [List.map_append, List.nodup_append]
    refine ⟨hnd.1,hh.nd,fun x hx y hy hxy=>?_⟩
    obtain ⟨e,he,rfl⟩:=List.mem_map.1 hx
    obtain ⟨e',he',rfl⟩:=List.mem_map.1 hy
    rcases ho e' he' with h1 | h1
    · rw [← hxy] at h1;exact fL e he h1
    · rw [← hxy] at h1;exact absurd (flt e he) (Nat.not_lt.2 h1)
  · rcases List.mem_append.1 he with he | he
    · rw [fsame e he];exact h.own e (List.mem_append_left _ he)
    · exact hh.own e he
  · rcases List.mem_append.1 he with he | he
    · rcases hg e.b hG with h1 | h1 | h1
      · exact fG e he h1
      · exact absurd (flt e he) (Nat.not_lt.2 h1)
      · exact fL e he h1
    · exact hh.ng e he hG
  · rcases hg b hb with h1 | h1 | ⟨e, he, h1⟩
    · exact .inl h1
    · exact .inr (.inl h1)
    · exact .inr (.inr ⟨e,List.mem_append_right _ he,h1⟩)
  · rcases List.mem_append.1 he with he | he
    · exact .inl ⟨e,List.mem_append_left _ he,rfl⟩
    · rcases ho e he with ⟨e', he', h1⟩ | h1
      · exact .inl ⟨e',List.mem_append_right _ he',h1⟩
      · exact .inr h1
  · obtain ⟨e, he, h1⟩ := hi
    exact ⟨e,List.mem_append_right _ he,h1⟩
theorem Gives.frame {P op ρ L R} {Post:Yn} (h:Gives P op ρ L R Post) (F:List Blk):Gives P op ρ (F ++ L) R (fun v L'' R'=>∃L',L''=F ++ L'∧Post v L' R'):=by
  intro c w hs a next Q k
  obtain ⟨⟨G,hh,hg⟩,ho,hk⟩:=hs
  have hL:Holds L G R w:=⟨(List.nodup_append.1 (by have:=hh.nd;rwa [List.map_append] at this)).2.1,fun e he=>hh.own e (List.mem_append_right _ he),fun e he=>hh.ng e (List.mem_append_right _ he),hh.gs,hh.rep⟩
  exact h ⟨w,inL L,G⟩ w (St.init hL) a next Q fun v L' R' w' hp hst=>k v _ R' w' ⟨L',rfl,hp⟩ (St.trans ⟨⟨G,hh,hg⟩,ho,hk⟩ hg (St.frame hh hst))
def Uu : Op → Nat
  | .alloc _=>1
  | .move _ | .assign _ | .pick .. | .build .. | .load .. | .nilCheck _ | .binOp .. | .unOp .. | .convert .. | .slice .. | .fieldAddr .. | .field .. | .indexAddr .. | .index .. | .extract .. | .makeInterface ..=>0
  | .call c=>match c.callee with
    | .builtin .len | .builtin .cap | .builtin .min | .builtin .max=>0
    | _=>2
  | _=>2
def zT {P:Program} (tb:Tabs P) (T:TypeId):List Value:=match V0 tb.tab T with
  | some ti=>ti.z
  | none=>[]
def DJ (P : Program) (tb : Tabs P) (n : Nat) (all : Array Oper) (Lc : List Blk) (K : Kp) : List Oper → (Nat → Value) → List Blk → List Sl → Prop
  | [],t,L,R=>K .normal t L R
  | o :: rest,t,L,R=>dOk n o.dst=true∧
    ((V1 all t o.guard=false∧Uu o.op≠1∧DJ P tb n all Lc K rest (Ygb t o.dst undef) L R)∨
     (V1 all t o.guard=true∧Uu o.op=0∧∃v,YV P o (ev t) Lc R v∧DJ P tb n all Lc K rest (Ygb t o.dst v) L R)∨
     (Uu o.op=1∧∃T,o.op=.alloc T∧∀b,DJ P tb n all Lc K rest (Ygb t o.dst (.pointer (some ⟨b,0,none⟩))) (⟨b,zT tb T,T⟩ :: L) R)∨
     (V1 all t o.guard=true∧Uu o.op=2∧∃Post,Gives P o (ev t) L R Post∧∀v L' R',Post v L' R'→Lc.Sublist L'∧(∀r∈R,InR r R')∧DJ P tb n all Lc K rest (Ygb t o.dst v) L' R'))
def Vo (ops:Array Oper) (i:Nat):Nat:=match ops[i]? with
  | some o=>Uu o.op
  | none=>3
def Y7d (ops:Array Oper) (p:Nat→Bool) (done:Array Bool):Array Bool:=
  (Array.range ops.size).map fun i=>done.getD i true || (Nat.beq (Vo ops i) 1 && p i)
def Kqa (ops : Array Oper) (done : Array Bool) : List Nat → Bool
  | []=>(Region.ready .any ops done).isEmpty
  | i :: rest=>
    (Region.ready .any ops done).contains i &&
    (match Vo ops i with
     | 0=>Region.free .any ops done i
     | 1=>(Region.ready .any ops (Y7d ops (fun k=>!Nat.beq k i) done)).all fun j=>Nat.beq (Vo ops j) 1
     | _=>(Region.ready .any ops (Y7d ops (fun _=>true) done)).all fun j=>Nat.beq j i) &&
    Kqa ops (done.setIfInBounds i true) rest
def Uya {P:Program} (tb:Tabs P) (n:Nat) (ops:Array Oper):Bool:=
  (List.range ops.size).all fun i=>match ops[i]? with
    | some o=>match o.op with
      | .alloc T=>o.guard.isNone && (V0 tb.tab T).isSome && (match o.dst with
        | some d=>Nat.blt d n && (List.range ops.size).all fun j=>Nat.beq j i || match ops[j]? with
          | some oj=>oj.dst != some d
          | none=>true
        | none=>false) && Region.free .any ops (Array.replicate ops.size false) i
      | _=>true
    | none=>true
structure Early where
  i:Nat
  d:Nat
  b:Nat
  T:TypeId
def ovr (t : Nat → Value) : List Early → Nat → Value
  | []=>t
  | e :: E=>upd (ovr t E) e.d (.pointer (some ⟨e.b,0,none⟩))
def Yub {P:Program} (tb:Tabs P) (E:List Early):List Blk:=E.map fun e=>⟨e.b,zT tb e.T,e.T⟩
theorem Vsb {P:Program} {md:Region.Mode} {ops:Array Oper} {Q:Exit→Act→World→Prop} {S S':World→Prop} (hS:∀w,S' w→S w):∀(f:Nat) (l:Array Bool) (a:Act) (w:World),
    wpAnyH P md ops Q S' f l a w→wpAnyH P md ops Q S f l a w
  | 0,_,_,_,h=>h
  | f + 1,_,_,_,h=>⟨h.1,fun i hi=>wpOp_mono (fun a' w' h'=>⟨hS _ h'.1,Vsb hS f _ a' w' h'.2⟩) (h.2 i hi)⟩
structure EOk {P:Program} (tb:Tabs P) (n:Nat) (ops:Array Oper) (done listed:Array Bool) (E:List Early):Prop where
  size:listed.size=done.size
  listed:∀i d,listed.getD i d=true↔done.getD i d=true∨∃e∈E,e.i=i
  op:∀e∈E,∃o,ops[e.i]?=some o∧o.op=.alloc e.T∧o.dst=some e.d∧o.guard=none
  fresh:∀e∈E,done.getD e.i true=false
  nd:(E.map (·.i)).Nodup
  ndd:(E.map (·.d)).Nodup
theorem Uqd {ops : Array Oper} {i : Nat} {oi : Oper} (hi : ops[i]? = some oi) (h : Region.free .any ops (Array.replicate ops.size false) i = true) {j : Nat} {oj : Oper} (hj : ops[j]? = some oj) (hne : j ≠ i)
    (hno:∀e∈oj.after,Region.binds .any e=true→e.on≠i):oi.apart ops oj=true:=by
  refine Region.free_spec hi h j oj hj hne ?_ hno
  have:j < ops.size:=(Array.getElem?_eq_some_iff.1 hj).1
  simp [this]
section
variable {P:Program} {tb:Tabs P} {n:Nat} {ops:Array Oper} {c:Ctx} {Lc:List Blk} {K:Kp}
theorem Uea (h:Uya tb n ops=true) {i:Nat} {o:Oper} {T:TypeId} (hi:ops[i]?=some o) (ho:o.op=.alloc T):
    o.guard=none∧(∃ti,V0 tb.tab T=some ti)∧(∃d,o.dst=some d∧d < n∧∀j oj,ops[j]?=some oj→j≠i→oj.dst≠some d)∧Region.free .any ops (Array.replicate ops.size false) i=true:=by
  have h1:=List.all_eq_true.1 h i (List.mem_range.2 (Array.getElem?_eq_some_iff.1 hi).1)
  simp only [hi,ho,Bool.and_eq_true,Option.isNone_iff_eq_none] at h1
  obtain ⟨⟨⟨h1,h2⟩,h3⟩,h4⟩:=h1
  refine ⟨h1,Option.isSome_iff_exists.1 h2,?_,h4⟩
  cases hd:o.dst with
  | none=>rw [hd] at h3;cases h3
  | some d=>
    rw [hd] at h3
    simp only [Bool.and_eq_true] at h3
    refine ⟨d,rfl,by simpa using h3.1,fun j oj hj hne e=>?_⟩
    have h5:=List.all_eq_true.1 h3.2 j (List.mem_range.2 (Array.getElem?_eq_some_iff.1 hj).1)
    simp [hj,Yjd hne,e] at h5
theorem Yqc {t : Nat → Value} {k : Nat} : ∀ {E : List Early}, (∀ e ∈ E, e.d ≠ k) → ovr t E k = t k
  | [],_=>rfl
  | e :: E,h=>by
    have h1:=h e zo
    simp only [ovr,upd,Yjd (Ne.symm h1),cond_false]
    exact Yqc fun e he=>h e (by simp [he])
theorem Uib {t : Nat → Value} {d : Option Tmp} {v : Value} : ∀ {E : List Early}, (∀ e ∈ E, d ≠ some e.d) → Ygb (ovr t E) d v = ovr (Ygb t d v) E
  | [],_=>rfl
  | e :: E,h=>by
    have h1:=h e zo
    have ih:=Uib (t:=t) (d:=d) (v:=v) (E:=E) fun e he=>h e (by simp [he])
    simp only [ovr]
    rw [← ih]
    cases d with
    | none=>rfl
    | some d=>
      have hne:d≠e.d:=fun e'=>h1 (by rw [e'])
      funext k
      simp only [Ygb,upd]
      by_cases hk:k=d
      · subst hk
        simp [Yjd hne]
      · rw [Yjd hk,cond_false,cond_false]
theorem Krd {t:Nat→Value} {o:Oper} (hs:∀cs b,o.op≠.select cs b) {E:List Early} (h:∀e∈E,e.d ∉ o.looksAt ops):execOp (ev (ovr t E)) o=execOp (ev t) o:=by
  refine execOp_congr o hs fun x hx=>?_
  cases x with
  | tmp k=>
    refine Yqc fun e he hk=>h e he ?_
    subst hk
    exact List.mem_append_left _ (List.mem_filterMap.2 ⟨.tmp e.d,by simpa using hx,rfl⟩)
  | _=>rfl
theorem Kmd {t:Nat→Value} {o:Oper} {E:List Early} (h:∀e∈E,e.d ∉ o.looksAt ops):V1 ops (ovr t E) o.guard=V1 ops t o.guard:=by
  unfold V1
  cases hg:o.guard with
  | none=>rfl
  | some p=>
    obtain ⟨j,want⟩:=p
    have:Y6b ops (ovr t E) j=Y6b ops t j:=by
      unfold Y6b
      cases hd:(ops[j]?).bind (·.dst) with
      | none=>rfl
      | some d=>
        have:ovr t E d=t d:=Yqc fun e he hk=>h e he (by
          subst hk
          exact List.mem_append_right _ (by simp [hg,hd]))
        simp only [this]
    simp only [this]
theorem Vyb (hal : Uya tb n ops = true) {done listed : Array Bool} {E : List Early} (hE : EOk tb n ops done listed E) {i : Nat} {o : Oper} (hi : ops[i]? = some o) (hin : ∀ e ∈ E, e.i ≠ i)
    (hready:∀e∈o.after,Region.binds .any e=true→done.getD e.on false=true):∀e∈E,e.d ∉ o.looksAt ops∧o.dst≠some e.d:=by
  intro e he
  obtain ⟨oe,h1,h2,h3,h4⟩:=hE.op e he
  obtain ⟨_,_,_,hfree⟩:=Uea hal h1 h2
  have hap:=Uqd h1 hfree hi (Ne.symm (hin e he)) (fun x hx hb hon=>by
    have h5:=hready x hx hb
    rw [hon] at h5
    have h6:=hE.fresh e he
    have:done.getD e.i false=false:=by
      rcases Nat.lt_or_ge e.i done.size with h' | h'
      · simp [h'] at h6 ⊢;exact h6
      · simp [Array.getElem?_eq_none h']
    rw [this] at h5
    cases h5)
  obtain ⟨a1,a2,a3⟩:=Oper.apart_spec hap
  exact ⟨a1 e.d h3,a2 e.d h3⟩
theorem Zha {o:Oper} {T:TypeId} (h:o.op=.alloc T):Uu o.op=1:=by rw [h];rfl
theorem Y4a {o:Oper} (h:Uu o.op=1):∃T,o.op=.alloc T:=by
  cases ho:o.op <;> rw [ho] at h <;> simp only [Uu] at h <;> first | exact ⟨_,rfl⟩ | (exact absurd h zc) | skip
  split at h <;> exact absurd h zc
theorem Kdd (op:Op):Uu op=0∨Uu op=1∨Uu op=2:=by
  unfold Uu
  split <;> first | (exact .inl rfl) | (exact .inr (.inl rfl)) | (exact .inr (.inr rfl)) | skip
  split <;> first | (exact .inl rfl) | (exact .inr (.inr rfl))
theorem K7 {l:Array Bool} {i:Nat} (h:i < l.size) (d:Bool):(l.setIfInBounds i true).getD i d=true:=by simp [h]
theorem EOk.step {done listed:Array Bool} {E:List Early} (hE:EOk tb n ops done listed E) {i:Nat} (hin:∀e∈E,e.i≠i) (hi:i < done.size):
    EOk tb n ops (done.setIfInBounds i true) (listed.setIfInBounds i true) E:=by
  refine ⟨by simp [hE.size],fun k d=>?_,hE.op,fun e he=>?_,hE.nd,hE.ndd⟩
  · by_cases hk : i = k
    · subst hk
      rw [K7 hi,K7 (by rw [hE.size];exact hi)]
      simp
    · rw [getD_set_ne d hk, getD_set_ne d hk]
      exact hE.listed k d
  · rw [getD_set_ne true (Ne.symm (hin e he))]
    exact hE.fresh e he
theorem Vs : ∀ (l1 l2 : List Nat), l1.Nodup → (∀ x ∈ l1, x ∈ l2) → l1.length ≤ l2.length
  | [],_,_,_=>by simp
  | x :: l1,l2,hn,hs=>by
    rw [List.nodup_cons] at hn
    have hx:=hs x zo
    have:=Vs l1 (l2.erase x) hn.2 fun y hy=>by
      have hne:y≠x:=fun e=>hn.1 (e ▸ hy)
      exact (List.mem_erase_of_ne hne).2 (hs y (by simp [hy]))
    rw [List.length_erase_of_mem hx] at this
    have:0 < l2.length:=List.length_pos_of_mem hx
    simp only [List.length_cons]
    omega
theorem V6b {t : Nat → Value} {e : Early} {E2 : List Early} : ∀ {E1 : List Early}, ((E1 ++ e :: E2).map (·.d)).Nodup → ovr t (E1 ++ e :: E2) = ovr (upd t e.d (.pointer (some ⟨e.b, 0, none⟩))) (E1 ++ E2)
  | [],h=>by
    simp only [List.nil_append,List.map_cons,List.nodup_cons] at h
    have:=Uib (t:=t) (d:=some e.d) (v:=.pointer (some ⟨e.b,0,none⟩)) (E:=E2) fun x hx hd=>h.1 (List.mem_map.2 ⟨x,hx,(Option.some.inj hd).symm⟩)
    exact this
  | x :: E1,h=>by
    simp only [List.cons_append,List.map_cons,List.nodup_cons] at h
    simp only [List.cons_append,ovr,V6b h.2]
theorem St.perm {L L':List Blk} {R:List Sl} {w:World} (h:St c L R w) (hp:L.Perm L'):St c L' R w:=by
  obtain ⟨⟨G,hh,hg⟩,ho,hk⟩:=h
  exact ⟨⟨G,⟨(hp.map _).nodup_iff.1 hh.nd,fun e he=>hh.own e (hp.mem_iff.2 he),fun e he=>hh.ng e (hp.mem_iff.2 he),hh.gs,hh.rep⟩,hg⟩,fun e he=>ho e (hp.mem_iff.2 he),hk⟩
theorem Zub {p:Nat→Bool} {done:Array Bool} {i:Nat} (hi:i < ops.size) (d:Bool):(Y7d ops p done).getD i d=(done.getD i true || (Nat.beq (Vo ops i) 1 && p i)):=by
  simp [Y7d,hi]
theorem Uga {p:Nat→Bool} {done listed:Array Bool} {E:List Early} (hE:EOk tb n ops done listed E) (hp:∀e∈E,p e.i=true) (hds:done.size=ops.size) {j:Nat} (hj:j∈Region.ready .any ops listed) (hk:Vo ops j≠1):
    j∈Region.ready .any ops (Y7d ops p done):=by
  obtain ⟨h0,o,ho,hall⟩:=mem_ready.1 hj
  have hlt:j < ops.size:=(Array.getElem?_eq_some_iff.1 ho).1
  refine mem_ready.2 ⟨?_,o,ho,fun e he hb=>?_⟩
  · rw [Zub hlt]
    have h1:done.getD j true=false:=by
      cases hd:done.getD j true with
      | false=>rfl
      | true=>rw [(hE.listed j true).2 (.inl hd)] at h0;cases h0
    have h2:Nat.beq (Vo ops j) 1=false:=Yjd hk
    simp [h1,h2]
  · have h1 := hall e he hb
    have hlt2:e.on < ops.size:=by
      rcases Nat.lt_or_ge e.on listed.size with h' | h'
      · rw [hE.size,hds] at h';exact h'
      · simp [Array.getElem?_eq_none h'] at h1
    rw [Zub hlt2]
    rcases (hE.listed e.on false).1 h1 with h2 | ⟨x,hx,hxi⟩
    · have:done.getD e.on true=true:=by
        rcases Nat.lt_or_ge e.on done.size with h' | h'
        · simp [h'] at h2 ⊢;exact h2
        · simp [Array.getElem?_eq_none h']
      simp only [this,Bool.true_or]
    · obtain ⟨ox, h3, h4, _, _⟩ := hE.op x hx
      have h5:Vo ops e.on=1:=by
        rw [← hxi];simp only [Vo,h3];exact Zha h4
      have h6:=hp x hx
      rw [hxi] at h6
      simp [h5,h6]
theorem Kxb {o:Oper} {a:Act} {ρ:Operand→Value} {w:World} {next:Act→World→Prop} {Q:Exit→Act→World→Prop} (he:execOp a.eval o=execOp ρ o) (h:o.upon P a next Q ((execOp ρ o).run P w)):o.wp P a w next Q:=by
  unfold Oper.wp
  rw [he]
  exact h
theorem V8e {done listed : Array Bool} {t : Nat → Value} {L : List Blk} {R : List Sl} {a : Act} {w : World} (hpl : Kqa ops done [] = true) (hE : EOk tb n ops done listed []) (hdj : DJ P tb n ops Lc K [] t L R)
    (hfr:Fr n (ovr t []) a) (hst:St c (Yub tb [] ++ L) R w) {S:World→Prop} (fuel:Nat):wpAnyH P .any ops (Y0a n c K) S fuel listed a w:=by
  refine wpAnyH_done ?_ ⟨trivial,t,L,R,hdj,hfr,hst⟩ fuel
  simp only [Kqa,List.isEmpty_iff] at hpl
  refine List.eq_nil_iff_forall_not_mem.2 fun j hj=>?_
  obtain ⟨h0,o,ho,hall⟩:=mem_ready.1 hj
  have h1:done.getD j true=false:=by
    cases hd:done.getD j true with
    | false=>rfl
    | true=>rw [(hE.listed j true).2 (.inl hd)] at h0;cases h0
  have:j∈Region.ready .any ops done:=by
    refine mem_ready.2 ⟨h1,o,ho,fun e he hb=>?_⟩
    rcases (hE.listed e.on false).1 (hall e he hb) with h | ⟨x,hx,_⟩
    · exact h
    · cases hx
  rw [hpl] at this
  cases this
theorem V7e (hsel:Region.noSelect ops=true) (hal:Uya tb n ops=true):∀(m fuel:Nat) (plan:List Nat) (os:List Oper) (done listed:Array Bool) (E:List Early) (t:Nat→Value) (L:List Blk) (R:List Sl) (a:Act) (w:World),
    fuel + plan.length≤m→plan.length≤fuel + E.length→plan.map (ops[·]?)=os.map some→Kqa ops done plan=true→EOk tb n ops done listed E→(∀e∈E,e.i∈plan)→done.size=ops.size→
    (∀i,i < ops.size→done.getD i true=false→i∈plan)→
    Fr n (ovr t E) a→St c (Yub tb E ++ L) R w→Lc.Sublist L→DJ P tb n ops Lc K os t L R→wpAnyH P .any ops (Y0a n c K) (St c Lc R) fuel listed a w:=by
  intro m
  induction m with
  | zero=>
    intro fuel plan os done listed E t L R a w hm hfu hos hpl hE hEp hds hcov hfr hst hLc hdj
    obtain rfl:plan=[]:=by cases plan with | nil=>rfl | cons x l=>simp at hm
    obtain rfl:E=[]:=by cases E with | nil=>rfl | cons e E=>exact absurd (hEp e zo) zo
    obtain rfl:os=[]:=by cases os with | nil=>rfl | cons x l=>simp at hos
    exact V8e hpl hE hdj hfr hst fuel
  | succ m ih=>
    intro fuel plan os done listed E t L R a w hm hfu hos hpl hE hEp hds hcov hfr hst hLc hdj
    have hS:St c Lc R w:=hst.weak (hLc.trans (List.sublist_append_right _ _)) (fun r hr=>⟨r,hr,.here⟩)
    -- a making of a variable that comes up early
    have early:∀(f:Nat),fuel=f + 1→∀j,j∈Region.ready .any ops listed→Vo ops j=1→
        wpOp P ops (Y0a n c K) j (fun a' w'=>St c Lc R w'∧wpAnyH P .any ops (Y0a n c K) (St c Lc R) f (listed.setIfInBounds j true) a' w') a w:=by
      intro f hf j hj hkj
      obtain ⟨h0,oj,hoj,hall⟩:=mem_ready.1 hj
      have hkj':Uu oj.op=1:=by simpa [Vo,hoj] using hkj
      obtain ⟨T,hT⟩:=Y4a hkj'
      obtain ⟨hg,⟨ti,hti⟩,⟨d,hd,hdn,hdw⟩,hfree⟩:=Uea hal hoj hT
      obtain ⟨zv,hz1,hz2⟩:=Zp (tb.ok _ _ hti) w
      have hjd:done.getD j true=false:=by
        cases hd:done.getD j true with
        | false=>rfl
        | true=>rw [(hE.listed j true).2 (.inl hd)] at h0;cases h0
      have hjE:∀e∈E,e.i≠j:=fun e he hi=>by rw [(hE.listed j true).2 (.inr ⟨e,he,hi⟩)] at h0;cases h0
      have hzT:zv.cells.toList=zT tb T:=by rw [hz2];simp [zT,hti]
      have hst':St c (Yub tb (⟨j,d,w.heap.size,T⟩ :: E) ++ L) R (w.alloc (.cells zv.cells T)):=by
        have:=hst.alloc zv.cells T
        rw [hzT] at this
        exact this
      unfold wpOp
      simp only [hoj]
      rw [hfr.wanted,hg]
      simp only [V1,if_true]
      refine .inl ?_
      have hrun:(execOp a.eval oj).run P w=.ok (.value (.pointer (some ⟨w.heap.size,0,none⟩))) (w.alloc (.cells zv.cells T)):=by
        obtain ⟨od,oo,ot,op,oa,og⟩:=oj
        simp only at hT
        subst hT
        simp [execOp,Instr.alloc,hz1,newVar,newRow]
      unfold Oper.wp
      rw [hrun]
      refine ⟨hst'.weak (hLc.trans (List.sublist_append_right _ _)) (fun r hr=>⟨r,hr,.here⟩),?_⟩
      have hjlt:j < ops.size:=(Array.getElem?_eq_some_iff.1 hoj).1
      have hjl:j < listed.size:=by rw [hE.size,hds];exact hjlt
      have hjp:j∈plan:=hcov j hjlt hjd
      refine ih f plan os done _ (⟨j,d,w.heap.size,T⟩ :: E) t L R _ _ za (by simp only [List.length_cons];omega) hos hpl ?_ ?_ hds hcov ?_ hst' hLc hdj
      · refine ⟨by simp [hE.size], fun k dd => ?_, fun e he => ?_, fun e he => ?_, ?_, ?_⟩
        · by_cases hk : j = k
          · subst hk
            rw [K7 hjl]
            simp
          · rw [getD_set_ne dd hk, hE.listed k dd]
            simp [hk]
        · rcases List.mem_cons.1 he with rfl | he
          · exact ⟨oj,hoj,hT,hd,hg⟩
          · exact hE.op e he
        · rcases List.mem_cons.1 he with rfl | he
          · exact hjd
          · exact hE.fresh e he
        · simp only [List.map_cons, List.nodup_cons]
          exact ⟨fun hm=>by obtain ⟨e,he,hi⟩:=List.mem_map.1 hm;exact hjE e he hi,hE.nd⟩
        · simp only [List.map_cons, List.nodup_cons]
          refine ⟨fun hm=>?_,hE.ndd⟩
          obtain ⟨e,he,hi⟩:=List.mem_map.1 hm
          obtain ⟨oe,h1,h2,h3,h4⟩:=hE.op e he
          exact hdw e.i oe h1 (hjE e he) (by rw [h3,hi])
      · intro e he
        rcases List.mem_cons.1 he with rfl | he
        · exact hjp
        · exact hEp e he
      · have := hfr.put (d := oj.dst) (by rw [hd]; simpa [dOk] using hdn) (.pointer (some ⟨w.heap.size, 0, none⟩))
        rw [hd] at this ⊢
        exact this
    cases plan with
    | nil=>
      obtain rfl:E=[]:=by cases E with | nil=>rfl | cons e E=>exact absurd (hEp e zo) zo
      obtain rfl:os=[]:=by cases os with | nil=>rfl | cons x l=>simp at hos
      exact V8e hpl hE hdj hfr hst fuel
    | cons i rest=>
      cases os with
      | nil=>simp at hos
      | cons o os=>
        simp only [List.map_cons,List.cons.injEq] at hos
        obtain ⟨hio,hos⟩:=hos
        simp only [Kqa,Bool.and_eq_true] at hpl
        obtain ⟨⟨hir,hkind⟩,hpl'⟩:=hpl
        have hir:i∈Region.ready .any ops done:=by simpa using hir
        obtain ⟨hi0,o',ho',hpre⟩:=mem_ready.1 hir
        obtain rfl:o'=o:=Option.some.inj (ho'.symm.trans hio)
        have hilt:i < ops.size:=(Array.getElem?_eq_some_iff.1 hio).1
        have hids:i < done.size:=by rw [hds];exact hilt
        have hka:Vo ops i=Uu o'.op:=by simp [Vo,hio]
        have hcov':∀k,k < ops.size→(done.setIfInBounds i true).getD k true=false→k∈rest:=by
          intro k hk hd
          by_cases hki:i=k
          · subst hki;rw [K7 hids] at hd;cases hd
          · rw [getD_set_ne true hki] at hd
            rcases List.mem_cons.1 (hcov k hk hd) with h | h
            · exact absurd h.symm hki
            · exact h
        have hds':(done.setIfInBounds i true).size=ops.size:=by simp [hds]
        have hdone:∀k,done.getD k true=true→∀d,listed.getD k d=true∨k ≥ done.size:=by
          intro k hk d
          rcases Nat.lt_or_ge k done.size with h' | h'
          · exact .inl ((hE.listed k d).2 (.inl (by simp [h'] at hk ⊢;exact hk)))
          · exact .inr h'
        obtain ⟨hd,hdj⟩:=hdj
        -- if the operation is no making of a variable, it has not come up, and is apart from the early ones
        have notE:Uu o'.op≠1→∀e∈E,e.i≠i:=by
          intro hk e he hi
          obtain ⟨oe,h1,h2,_,_⟩:=hE.op e he
          rw [hi] at h1
          obtain rfl:oe=o':=Option.some.inj (h1.symm.trans hio)
          exact hk (Zha h2)
        have cnt:Uu o'.op≠1→E.length≤rest.length:=by
          intro hk
          have:=Vs (E.map (·.i)) rest hE.nd (fun x hx=>by
            obtain ⟨e,he,rfl⟩:=List.mem_map.1 hx
            rcases List.mem_cons.1 (hEp e he) with h | h
            · exact absurd h (notE hk e he)
            · exact h)
          simpa using this
        have hready:Uu o'.op≠1→i∈Region.ready .any ops listed:=by
          intro hk
          refine mem_ready.2 ⟨?_,o',hio,fun e he hb=>(hE.listed _ _).2 (.inl (hpre e he hb))⟩
          cases hl:listed.getD i true with
          | false=>rfl
          | true=>
            rcases (hE.listed i true).1 hl with h | ⟨e,he,hi⟩
            · rw [h] at hi0;cases hi0
            · exact absurd hi (notE hk e he)
        have apart:Uu o'.op≠1→∀e∈E,e.d ∉ o'.looksAt ops∧o'.dst≠some e.d:=fun hk=>Vyb hal hE hio (notE hk) hpre
        have hEp':Uu o'.op≠1→∀e∈E,e.i∈rest:=fun hk e he=>by
          rcases List.mem_cons.1 (hEp e he) with h | h
          · exact absurd h (notE hk e he)
          · exact h
        have frame:Uu o'.op≠1→∀v,Fr n (ovr (Ygb t o'.dst v) E) (a.put o'.dst v):=fun hk v=>by
          rw [← Uib (fun e he=>(apart hk e he).2)]
          exact hfr.put hd v
        have hwant:Uu o'.op≠1→Region.wanted o' (yielded ops a.tmps)=V1 ops t o'.guard:=fun hk=>by
          rw [hfr.wanted,Kmd (fun e he=>(apart hk e he).1)]
        have hexec:Uu o'.op≠1→execOp a.eval o'=execOp (ev t) o':=fun hk=>by
          rw [hfr.eval]
          exact Krd (ops:=ops) (fun cs b=>Region.noSelect_spec hsel i o' cs b hio) (fun e he=>(apart hk e he).1)
        rcases Kdd o'.op with hk | hk | hk
        · -- it leaves the world alone
          have hk1:Uu o'.op≠1:=by rw [hk];decide
          have hlen:=cnt hk1
          obtain ⟨f,rfl⟩:∃f,fuel=f + 1:=⟨fuel - 1,by simp only [List.length_cons] at hfu;omega⟩
          rw [hka,hk] at hkind
          have hfree:∀j oj,ops[j]?=some oj→j≠i→listed.getD j true=false→(∀e∈oj.after,Region.binds .any e=true→e.on≠i)→o'.apart ops oj=true:=by
            intro j oj hj hne hl hno
            refine Region.free_spec hio hkind j oj hj hne ?_ hno
            cases hd:done.getD j true with
            | false=>rfl
            | true=>rw [(hE.listed j true).2 (.inl hd)] at hl;cases hl
          have go:∀v,YieldsIf P ops (St c Lc R) o' v a→DJ P tb n ops Lc K os (Ygb t o'.dst v) L R→wpAnyH P .any ops (Y0a n c K) (St c Lc R) (f + 1) listed a w:=by
            intro v hy hdj'
            refine wpAnyH_first hio (Region.noSelect_spec hsel) (fun _ _ _ h=>h.1.elim) f listed a w hfree (hready hk1) hy hS ?_
            exact ih f rest os _ _ E _ L R _ w zM zP hos hpl' (hE.step (notE hk1) hids) (hEp' hk1) hds' hcov' (frame hk1 v) hst hLc hdj'
          rcases hdj with ⟨hw,_,hdj'⟩ | ⟨hw,_,v,hv,hdj'⟩ | ⟨h1,_⟩ | ⟨_,h2,_⟩
          · exact go undef (.inr ⟨by rw [hwant hk1];exact hw,rfl⟩) hdj'
          · exact go v (.inl ⟨by rw [hwant hk1];exact hw,fun w' hw'=>by rw [hexec hk1];exact hv c w' hw'⟩) hdj'
          · exact absurd h1 hk1
          · rw [hk] at h2;cases h2
        · -- it makes a variable
          rw [hka,hk] at hkind
          rcases hdj with ⟨_,h1,_⟩ | ⟨_,h2,_⟩ | ⟨_,T,hT,hdj'⟩ | ⟨_,h2,_⟩
          · exact absurd hk h1
          · rw [hk] at h2;cases h2
          · by_cases hin : ∃ e ∈ E, e.i = i
            · -- it has come up early
              obtain ⟨e,he,hei⟩:=hin
              obtain ⟨oe,h1,h2,h3,h4⟩:=hE.op e he
              rw [hei] at h1
              obtain rfl:oe=o':=Option.some.inj (h1.symm.trans hio)
              obtain rfl:e.T=T:=by rw [h2] at hT;exact Op.alloc.inj hT
              obtain ⟨E1,E2,rfl⟩:=List.append_of_mem he
              have hmem:∀x∈E1 ++ E2,x∈E1 ++ e :: E2:=fun x hx=>by
                rcases List.mem_append.1 hx with h | h
                · exact List.mem_append_left _ h
                · exact List.mem_append_right _ (List.mem_cons_of_mem _ h)
              have hni:∀x∈E1 ++ E2,x.i≠i:=by
                intro x hx hxi
                have hn:=hE.nd
                rw [List.map_append,List.map_cons,List.nodup_append,List.nodup_cons] at hn
                rcases List.mem_append.1 hx with h | h
                · exact hn.2.2 x.i (List.mem_map.2 ⟨x,h,rfl⟩) e.i zo (by rw [hxi,hei])
                · exact hn.2.1.1 (List.mem_map.2 ⟨x,h,by rw [hxi,hei]⟩)
              refine ih fuel rest os _ listed (E1 ++ E2) _ _ R a w zM zQa hos hpl' ?_ ?_ hds' hcov' ?_ ?_ (hLc.cons _) (hdj' e.b)
              · refine ⟨by rw [hE.size]; simp, fun k d => ?_, fun x hx => hE.op x (hmem x hx), fun x hx => ?_, ?_, ?_⟩
                · rw [hE.listed k d]
                  by_cases hk:i=k
                  · subst hk
                    rw [K7 hids]
                    simp only [true_or,iff_true]
                    exact .inr ⟨e,he,hei⟩
                  · rw [getD_set_ne d hk]
                    refine or_congr Iff.rfl ⟨fun ⟨x,hx,hxk⟩=>?_,fun ⟨x,hx,hxk⟩=>⟨x,hmem x hx,hxk⟩⟩
                    rcases List.mem_append.1 hx with h | h
                    · exact ⟨x,List.mem_append_left _ h,hxk⟩
                    · rcases List.mem_cons.1 h with rfl | h
                      · exact absurd (hei.symm.trans hxk) hk
                      · exact ⟨x,List.mem_append_right _ h,hxk⟩
                · rw [getD_set_ne true (Ne.symm (hni x hx))]
                  exact hE.fresh x (hmem x hx)
                · exact hE.nd.sublist (List.Sublist.map _ (List.Sublist.append (List.Sublist.refl _) (List.sublist_cons_self _ _)))
                · exact hE.ndd.sublist (List.Sublist.map _ (List.Sublist.append (List.Sublist.refl _) (List.sublist_cons_self _ _)))
              · intro x hx
                rcases List.mem_cons.1 (hEp x (hmem x hx)) with h | h
                · exact absurd h (hni x hx)
                · exact h
              · rw [h3]
                have:=V6b (t:=t) hE.ndd
                rw [this] at hfr
                exact hfr
              · refine hst.perm ?_
                simp only [Yub,List.map_append,List.map_cons,List.append_assoc,List.cons_append]
                refine List.Perm.append_left _ ?_
                exact (List.perm_middle (l₁:=E2.map fun e=>(⟨e.b,zT tb e.T,e.T⟩:Blk))).symm
            · -- it has not: whatever comes up now makes a variable
              have hin':∀e∈E,e.i≠i:=fun e he hi=>hin ⟨e,he,hi⟩
              have hrl:i∈Region.ready .any ops listed:=by
                refine mem_ready.2 ⟨?_,o',hio,fun e he hb=>(hE.listed _ _).2 (.inl (hpre e he hb))⟩
                cases hl:listed.getD i true with
                | false=>rfl
                | true=>
                  rcases (hE.listed i true).1 hl with h | ⟨e,he,hi⟩
                  · rw [h] at hi0;cases hi0
                  · exact absurd hi (hin' e he)
              have hlen:E.length + 1≤(i :: rest).length:=by
                have:=Vs (i :: E.map (·.i)) (i :: rest) (List.nodup_cons.2 ⟨fun hm=>by obtain ⟨e,he,hi⟩:=List.mem_map.1 hm;exact hin' e he hi,hE.nd⟩) (fun x hx=>by
                  rcases List.mem_cons.1 hx with rfl | hx
                  · simp
                  · obtain ⟨e, he, rfl⟩ := List.mem_map.1 hx
                    exact hEp e he)
                simpa using this
              obtain ⟨f,rfl⟩:∃f,fuel=f + 1:=⟨fuel - 1,by omega⟩
              refine wpAnyH_all rfl (List.ne_nil_of_mem hrl) fun j hj=>early f rfl j hj ?_
              by_cases hkj:Vo ops j=1
              · exact hkj
              · have := Uga (p := fun k => !Nat.beq k i) hE (fun e he => by simp [Yjd (hin' e he)]) hds hj hkj
                exact absurd (Nat.eq_of_beq_eq_true (List.all_eq_true.1 hkind j this)) hkj
          · rw [hk] at h2;cases h2
        · -- it turns the world
          have hk1:Uu o'.op≠1:=by rw [hk];decide
          have hlen:=cnt hk1
          obtain ⟨f,rfl⟩:∃f,fuel=f + 1:=⟨fuel - 1,by simp only [List.length_cons] at hfu;omega⟩
          rw [hka,hk] at hkind
          refine wpAnyH_all rfl (List.ne_nil_of_mem (hready hk1)) fun j hj=>?_
          by_cases hkj:Vo ops j=1
          · exact early f rfl j hj hkj
          · have hji := Uga (p := fun _ => true) hE (fun _ _ => rfl) hds hj hkj
            have:=List.all_eq_true.1 hkind j hji
            obtain rfl:j=i:=by simpa using this
            unfold wpOp
            simp only [hio]
            rw [hwant hk1]
            rcases hdj with ⟨hw,_,hdj'⟩ | ⟨_,h2,_⟩ | ⟨h1,_⟩ | ⟨hw,_,Post,hg,hdj'⟩
            · rw [hw, if_neg zo]
              exact ⟨hS,ih f rest os _ _ E _ L R _ w zM zP hos hpl' (hE.step (notE hk1) hids) (hEp' hk1) hds' hcov' (frame hk1 undef) hst hLc hdj'⟩
            · rw [hk] at h2;cases h2
            · exact absurd h1 hk1
            · rw [hw, if_pos rfl]
              refine .inl (Kxb (hexec hk1) ?_)
              refine (hg.frame (Yub tb E)) c w hst a _ _ ?_
              rintro v L'' R' w' ⟨L',rfl,hp⟩ hst'
              obtain ⟨hLc',hR',hdj''⟩:=hdj' v L' R' hp
              refine ⟨hst'.weak (hLc'.trans (List.sublist_append_right _ _)) hR',?_⟩
              refine Vsb (S':=St c Lc R') (fun x hx=>hx.weak (List.Sublist.refl _) hR') _ _ _ _ ?_
              exact ih f rest os _ _ E _ L' R' _ w' zM zP hos hpl' (hE.step (notE hk1) hids) (hEp' hk1) hds' hcov' (frame hk1 v) hst' hLc' hdj''
end
end Go.Aw
end
section
namespace Go.Aw
open Go
def Jpa (ops : List Oper) : List Nat → List Oper
  | []=>[]
  | i :: l=>match ops[i]? with
    | some o=>o :: Jpa ops l
    | none=>Jpa ops l
def Upb {P:Program} (tb:Tabs P) (n:Nat) (ops:Array Oper) (plan:List Nat):Bool:=
  Region.noSelect ops && Uya tb n ops && Kqa ops (Array.replicate ops.size false) plan && ((List.range ops.size).all fun i=>plan.contains i) && plan.all fun i=>Nat.blt i ops.size
theorem Jjb (ops : List Oper) : ∀ (plan : List Nat), (∀ i ∈ plan, i < ops.length) → plan.map (ops.toArray[·]?) = (Jpa ops plan).map some
  | [],_=>rfl
  | i :: l,h=>by
    have hi:=h i zo
    have ih:=Jjb ops l fun j hj=>h j (by simp [hj])
    simp only [List.map_cons,Jpa,List.getElem?_toArray,List.getElem?_eq_getElem hi]
    congr 1
    simpa using ih
theorem Kn {P : Program} (tb : Tabs P) {n id : Nat} {ops : List Oper} {t : Nat → Value} {L : List Blk} {R : List Sl} {Q : Kp} (plan : List Nat) (Lc : List Blk) (hm : P.follows .mixedOrders = true) (hB : Upb tb n ops.toArray plan = true) (hLc : Lc.Sublist L)
    (h:DJ P tb n ops.toArray Lc Q (Jpa ops plan) t L R):CJ P n (.region id ops.toArray true) t L R Q:=by
  simp only [Upb,Bool.and_eq_true] at hB
  obtain ⟨⟨⟨⟨h1,h2⟩,h3⟩,h4⟩,h5⟩:=hB
  have hlt:∀i∈plan,i < ops.length:=fun i hi=>by simpa using List.all_eq_true.1 h5 i hi
  intro c a w hf hs
  refine wp_region_held (S:=St c Lc R) hm ?_
  have hlen:plan.length≤ops.toArray.size∨True:=.inr trivial
  refine V7e (tb:=tb) (Lc:=Lc) h1 h2 (ops.toArray.size + plan.length) ops.toArray.size plan (Jpa ops plan) (Array.replicate ops.toArray.size false) _ [] t L R a _ (Nat.le_refl _) ?_ (Jjb ops plan hlt) h3 ?_ (fun e he=>by cases he) zo ?_ hf ?_ hLc h
  · -- the plan lists each operation once: what is ready is not done
    have key:∀(pl:List Nat) (done:Array Bool),Kqa ops.toArray done pl=true→pl.Nodup∧∀i∈pl,done.getD i true=false:=by
      intro pl
      induction pl with
      | nil=>intro _ _;exact ⟨List.nodup_nil,fun i hi=>by cases hi⟩
      | cons i pl ih=>
        intro done hp
        simp only [Kqa,Bool.and_eq_true] at hp
        obtain ⟨hn,hd⟩:=ih _ hp.2
        have hr:i∈Region.ready .any ops.toArray done:=by simpa using hp.1.1
        obtain ⟨h0,_⟩:=mem_ready.1 hr
        refine ⟨List.nodup_cons.2 ⟨fun hm=>?_,hn⟩,fun k hk=>?_⟩
        · have := hd i hm
          rcases Nat.lt_or_ge i done.size with h' | h'
          · rw [K7 h'] at this;cases this
          · simp [Array.getElem?_eq_none h'] at h0
        · rcases List.mem_cons.1 hk with rfl | hk
          · exact h0
          · by_cases hik : i = k
            · subst hik;exact h0
            · have := hd k hk
              rwa [getD_set_ne true hik] at this
    have:=Vs plan (List.range ops.length) (key plan _ h3).1 (fun i hi=>List.mem_range.2 (hlt i hi))
    simpa using this
  · exact ⟨by simp,fun i d=>by simp,by simp,by simp,List.nodup_nil,List.nodup_nil⟩
  · intro i hi _
    have:=List.all_eq_true.1 h4 i (List.mem_range.2 hi)
    simpa using this
  · exact St.drew hs
section
variable {P:Program} {tb:Tabs P} {n:Nat} {all:Array Oper} {Lc:List Blk} {K:Kp} {op:Op} {ty:TypeId} {pos:String} {after:Array Edge} {rest:List Oper} {t:Nat→Value} {L L':List Blk} {R R':List Sl} {d:Tmp} {v:Value} {g:Option (Nat×Bool)} {T:TypeId} {x y:Operand}
theorem J1 (h:K .normal t L R):DJ P tb n all Lc K [] t L R:=h
theorem Kv (hv:YV P ⟨some d,op,ty,pos,after,g⟩ (ev t) Lc R v) (hk:Uu op=0) (hg:V1 all t g=true) (hd:Nat.blt d n=true) (h:DJ P tb n all Lc K rest (upd t d v) L R):DJ P tb n all Lc K (⟨some d,op,ty,pos,after,g⟩ :: rest) t L R:=
  ⟨hd,.inr (.inl ⟨hg,hk,v,hv,h⟩)⟩
theorem Jbf (hk:Nat.beq (Uu op) 1=false) (hg:V1 all t g=false) (hd:Nat.blt d n=true) (h:DJ P tb n all Lc K rest (upd t d undef) L R):DJ P tb n all Lc K (⟨some d,op,ty,pos,after,g⟩ :: rest) t L R:=
  ⟨hd,.inl ⟨hg,fun e=>by simp [e] at hk,h⟩⟩
theorem Ule {k m fl bt z} (hT : V0 tb.tab T = some ⟨k, m, fl, bt, z⟩) (hd : Nat.blt d n = true)
    (h:∀b,DJ P tb n all Lc K rest (upd t d (.pointer (some ⟨b,0,none⟩))) (⟨b,z,T⟩ :: L) R):DJ P tb n all Lc K (⟨some d,.alloc T,ty,pos,after,none⟩ :: rest) t L R:=
  ⟨hd,.inr (.inr (.inl ⟨rfl,T,rfl,fun b=>by
    have:=h b
    have e:zT tb T=z:=by simp [zT,hT]
    rw [e]
    exact this⟩))⟩
theorem Yjb {Post : Yn} (hg : Gives P ⟨some d, op, ty, pos, after, g⟩ (ev t) L R Post) (hk : Uu op = 2) (hw : V1 all t g = true) (hd : Nat.blt d n = true)
    (h:∀v L' R',Post v L' R'→Lc.Sublist L'∧(∀r∈R,InR r R')∧DJ P tb n all Lc K rest (upd t d v) L' R'):DJ P tb n all Lc K (⟨some d,op,ty,pos,after,g⟩ :: rest) t L R:=
  ⟨hd,.inr (.inr (.inr ⟨hw,hk,Post,hg,h⟩))⟩
theorem Kcb {Post : Yn} (hg : Gives P ⟨none, op, ty, pos, after, g⟩ (ev t) L R Post) (hk : Uu op = 2) (hw : V1 all t g = true)
    (h:∀v L' R',Post v L' R'→Lc.Sublist L'∧(∀r∈R,InR r R')∧DJ P tb n all Lc K rest t L' R'):DJ P tb n all Lc K (⟨none,op,ty,pos,after,g⟩ :: rest) t L R:=
  ⟨rfl,.inr (.inr (.inr ⟨hw,hk,Post,hg,fun v L' R' hp=>h v L' R' hp⟩))⟩
theorem Yt {f : FuncId} {xs : List Operand} {ts : Array TypeId} {args : List Value} {Post : Yn} (ha : xs.map (ev t) = args) (h : Tri P f args.toArray L R Post) (hw : V1 all t g = true) (hd : Nat.blt d n = true)
    (k:∀v L' R',Post v L' R'→Lc.Sublist L'∧(∀r∈R,InR r R')∧DJ P tb n all Lc K rest (upd t d v) L' R'):DJ P tb n all Lc K (⟨some d,.call ⟨.value (.func f),xs.toArray,ts⟩,ty,pos,after,g⟩ :: rest) t L R:=
  Yjb (K3a zna rfl h) rfl hw hd k
theorem Zh {k m fl bt z b o} {cs cs' : List Value} {v : Value} {T' : TypeId} (hT : V0 tb.tab T = some ⟨k, m, fl, bt, z⟩) (hx : ev t x = .pointer (some ⟨b, o, none⟩)) (hy : ev t y = v) (hn : m = 1)
    (hu:Upd1 b cs T' cs' L L') (hfit:Nat.blt o cs.length=true) (hcs:cs.set o v=cs') (h1:v.oneCell'=true) (hLc:Lc.Sublist L')
    (h:DJ P tb n all Lc K rest t L' R):DJ P tb n all Lc K (⟨none,.store T x y,ty,pos,after,none⟩ :: rest) t L R:=
  Kcb (Kqb tb hT hx hy hn hu hfit hcs h1) rfl rfl fun _ L'' R' ⟨e1,e2⟩=>by subst e1;subst e2;exact ⟨hLc,Jc _,h⟩
theorem Zva {k m fl bt z b o} {cs vs cs' : List Value} {T' : TypeId} (hT : V0 tb.tab T = some ⟨k, m, fl, bt, z⟩) (hx : ev t x = .pointer (some ⟨b, o, none⟩)) (hy : ev t y = .agg vs.toArray) (hn : vs.length = m)
    (hu:Upd1 b cs T' cs' L L') (hfit:Nat.ble (o + vs.length) cs.length=true) (hcs:cs.take o ++ vs ++ cs.drop (o + vs.length)=cs') (h1:vs.all (·.oneCell')=true) (hLc:Lc.Sublist L')
    (h:DJ P tb n all Lc K rest t L' R):DJ P tb n all Lc K (⟨none,.store T x y,ty,pos,after,none⟩ :: rest) t L R:=
  Kcb (Kib tb hT hx hy hn hu hfit hcs h1) rfl rfl fun _ L'' R' ⟨e1,e2⟩=>by subst e1;subst e2;exact ⟨hLc,Jc _,h⟩
theorem Jqe {k m fl bt z b} {cs vs : List Value} {T' : TypeId} (hT : V0 tb.tab T = some ⟨k, m, fl, bt, z⟩) (hx : ev t x = .pointer (some ⟨b, 0, none⟩)) (hy : ev t y = .agg vs.toArray) (hn : vs.length = m)
    (hu:Upd1 b cs T' vs L L') (hfit:vs.length=cs.length) (h1:vs.all (·.oneCell')=true) (hLc:Lc.Sublist L')
    (h:DJ P tb n all Lc K rest t L' R):DJ P tb n all Lc K (⟨none,.store T x y,ty,pos,after,none⟩ :: rest) t L R:=
  Zva hT hx hy hn hu (by simp [hfit]) (by simp [hfit]) h1 hLc h
theorem Yia {t:Nat→Value} {k:Nat} {v:Value} (h:t k=v):upd t k v=t:=by
  funext i
  unfold upd
  cases hb:Nat.beq i k with
  | false=>rfl
  | true=>rw [cond_true,Nat.eq_of_beq_eq_true hb];exact h.symm
theorem Vd {os:List Oper} {k:Nat} {b:Bool} (hb:t k=.bool b) (h1:b=true→DJ P tb n all Lc K os (upd t k (.bool true)) L R) (h2:b=false→DJ P tb n all Lc K os (upd t k (.bool false)) L R):DJ P tb n all Lc K os t L R:=by
  cases b with
  | true=>have:=h1 rfl;rwa [Yia hb] at this
  | false=>have:=h2 rfl;rwa [Yia hb] at this
theorem Jsa {os:List Oper} {k:Nat} {b:Bool} {Q:Kp} (hb:t k=.bool b) (h1:b=true→LJ P n all os (upd t k (.bool true)) L R Q) (h2:b=false→LJ P n all os (upd t k (.bool false)) L R Q):LJ P n all os t L R Q:=by
  cases b with
  | true=>have:=h1 rfl;rwa [Yia hb] at this
  | false=>have:=h2 rfl;rwa [Yia hb] at this
end
def Yzb (z : List Value) : Nat → List Value
  | 0=>[]
  | n + 1=>z ++ Yzb z n
theorem Y5c (z:List Value) (n:Nat):(Yzb z n).length=n * z.length:=by
  induction n with
  | zero=>simp [Yzb]
  | succ n ih=>simp [Yzb,ih,Nat.succ_mul,Nat.add_comm]
theorem Kad (z : List Value) (hz : 0 < z.length) : ∀ (n i : Nat), i < n * z.length → (Yzb z n)[i]? = z[i % z.length]?
  | 0,i,h=>by simp at h
  | n + 1,i,h=>by
    simp only [Yzb]
    rcases Nat.lt_or_ge i z.length with h' | h'
    · rw [List.getElem?_append_left h',Nat.mod_eq_of_lt h']
    · rw [List.getElem?_append_right h', Kad z hz n (i - z.length) (by rw [Nat.succ_mul] at h; omega)]
      rw [Nat.mod_eq_sub_mod h']
theorem Y9d (z:Array Value) (n:Nat):((Array.range (n * z.size)).map (z[· % z.size]!)).toList=Yzb z.toList n:=by
  apply List.ext_getElem?
  intro i
  rcases Nat.lt_or_ge i (n * z.size) with h | h
  · have hz:0 < z.size:=by
      rcases Nat.eq_zero_or_pos z.size with h0 | h0
      · rw [h0] at h;simp at h
      · exact h0
    have hm:i % z.size < z.size:=Nat.mod_lt _ hz
    rw [Kad z.toList (by simpa using hz) n i zR]
    simp [h,hm]
  · rw [List.getElem?_eq_none zR,List.getElem?_eq_none (by rw [Y5c];simpa using h)]
def Yfd (size : Nat) (cs : List Value) : List (Nat × List Value) → Option (List Value)
  | []=>some cs
  | (i,vs) :: rest=>bif Nat.beq vs.length size && Nat.ble (i * size + vs.length) cs.length then Yfd size (J5c cs (i * size) vs) rest else none
theorem K2d (size:Nat):∀(parts:List (Nat×Value)) (cs:List Value) (out:List Value),
    Yfd size cs (parts.map fun p=>(p.1,p.2.cells.toList))=some out→Instr.fill (fun i=>some (i * size,size)) cs.toArray parts=some out.toArray
  | [],cs,out,h=>by simp only [List.map_nil,Yfd,Option.some.injEq] at h;simp [Instr.fill,h]
  | (i,v) :: rest,cs,out,h=>by
    simp only [List.map_cons,Yfd] at h
    simp only [Instr.fill]
    cases hb:(Nat.beq v.cells.toList.length size && Nat.ble (i * size + v.cells.toList.length) cs.length) with
    | false=>rw [hb] at h;cases h
    | true=>
      rw [hb,cond_true] at h
      simp only [Bool.and_eq_true,Nat.beq_eq,Nat.ble_eq,Array.length_toList] at hb
      have:=K2d size rest _ out h
      rw [if_neg (by simp [hb.1];omega)]
      have hz:(v.cells.zipIdx.foldl (fun cs (c,j)=>cs.setIfInBounds (i * size + j) c) cs.toArray)=(J5c cs (i * size) v.cells.toList).toArray:=by
        show v.cells.zipIdx.foldl (fun cs (x:Value×Nat)=>cs.setIfInBounds (i * size + x.2) x.1) cs.toArray=_
        rw [← Array.foldl_toList]
        have:=Vib v.cells.toList (i * size) 0 cs.toArray
        simpa using this
      rw [hz]
      exact this
inductive Ow where
  | nil
  | own (g cap:Nat) (spare:List Value)
def Ow.val : Ow → Nat → Value
  | .nil,_=>.slice none 0 0
  | .own g cap _,n=>.slice (some ⟨g,0,none⟩) n cap
def Ow.L (e : TypeId) (xs : List Value) : Ow → List Blk
  | .nil=>[]
  | .own g _ spare=>[⟨g,xs ++ spare,e⟩]
def Ow.ok (size : Nat) (xs : List Value) (n : Nat) : Ow → Prop
  | .nil=>n=0∧xs=[]
  | .own _ cap spare=>xs.length=n * size∧n≤cap∧cap≤maxLen∧(xs ++ spare).length=cap * size
inductive Seg (X : List Blk) : List Blk → (List Blk → List Blk) → Prop
  | here {B}:Seg X (X ++ B) (fun Y=>Y ++ B)
  | cons {x L f} (h:Seg X L f):Seg X (x :: L) (fun Y=>x :: f Y)
  | app {Z L f} (h:Seg X L f):Seg X (Z ++ L) (fun Y=>Z ++ f Y)
theorem Seg.split {X L f} (h:Seg X L f):∃A B,L=A ++ X ++ B∧∀Y,f Y=A ++ Y ++ B:=by
  induction h with
  | @here B=>exact ⟨[],B,by simp,fun Y=>by simp⟩
  | @cons x L f _ ih=>obtain ⟨A,B,h1,h2⟩:=ih;exact ⟨x :: A,B,by simp [h1],fun Y=>by simp [h2]⟩
  | @app Z L f _ ih=>obtain ⟨A,B,h1,h2⟩:=ih;exact ⟨Z ++ A,B,by simp [h1],fun Y=>by simp [h2]⟩
def Vqd (L:List Blk) (R:List Sl) (v:Value) (m size:Nat) (news:List Value):Prop:=
  ∃a cap,v=.slice (some a) m cap∧news.length=m * size∧∀c w,St c L R w→∀j u,news[j]?=some u→w.cell? (a.add j)=some u
theorem Kz {L:List Blk} {R:List Sl} {b m cap size:Nat} {cs news:List Value} {T:TypeId} (hin:In1 ⟨b,cs,T⟩ L) (hl:news.length=m * size) (hp:cs.take (m * size)=news):Vqd L R (.slice (some ⟨b,0,none⟩) m cap) m size news:=by
  refine ⟨_,_,rfl,hl,fun c w hst j u hj=>?_⟩
  rw [Kua,Nat.zero_add,Jza hst hin.mem]
  rw [← hp,List.getElem?_take] at hj
  split at hj
  · exact hj
  · cases hj
theorem Zla {size : Nat} : ∀ (rows : List (List Value)), (∀ r ∈ rows, r.length = size) → ∀ j, 0 < size → (rows.flatten)[j]? = (rows[j / size]?).bind (·[j % size]?)
  | [],_,j,_=>by simp
  | r :: rows,h,j,hs=>by
    have hr:=h r zo
    rw [List.flatten_cons]
    rcases Nat.lt_or_ge j size with h' | h'
    · rw [List.getElem?_append_left za, Nat.div_eq_of_lt h', Nat.mod_eq_of_lt h']
      simp
    · rw [List.getElem?_append_right za, hr, Zla rows (fun x hx => h x (by simp [hx])) _ hs]
      rw [Nat.mod_eq_sub_mod h',Nat.div_eq_sub_div hs h']
      simp
theorem Kqd {L : List Blk} {R : List Sl} {ar : Option Addr} {size len cap : Nat} {rows : List (List Value)} {subs : List Sl} (hR : InR (.mk size ar len cap rows subs) R) (hs : 0 < size) (har : ∀ c w, St c L R w → ∃ b off, ar = some ⟨b, off, none⟩)
    (hl:rows.flatten.length=len * size):(∃c w,St c L R w)→Vqd L R (.slice ar len cap) len size rows.flatten:=by
  rintro ⟨c0,w0,h0⟩
  obtain ⟨b,off,ha⟩:=har c0 w0 h0
  subst ha
  refine ⟨_,_,rfl,hl,fun c w hst j u hj=>?_⟩
  rw [Kua]
  have hst':=hst
  obtain ⟨⟨G,hh,hg⟩,ho,hk⟩:=hst
  obtain ⟨r,hr',hsub⟩:=hR
  have hrep:=(hh.rep r hr').sub hsub
  cases hrep with
  | mk hl2 hc hm hw hmem hs2=>
    rw [Zla rows hw j hs] at hj
    cases hrow:rows[j / size]? with
    | none=>rw [hrow] at hj;cases hj
    | some row=>
      rw [hrow] at hj
      have:=Y9c hst' (wd:=size) (len:=len) (cap:=cap) (i:=j / size) (j:=j % size) (ar:=some ⟨b,off,none⟩) (rows:=rows) (subs:=subs) ⟨r,hr',hsub⟩ hrow hj
      rw [← this]
      simp only [adB,eo,adO]
      congr 2
      have:=Nat.div_add_mod j size
      rw [Nat.mul_comm] at this
      omega
section
variable {P:Program} {ρ:Operand→Value} {L:List Blk} {R:List Sl} {dst:Option Tmp} {ty:TypeId} {pos:String} {after:Array Edge} {guard:Option (Nat×Bool)} (tb:Tabs P) {T:TypeId} {x y:Operand}
theorem Jv {e n fl bt z k2 n2 fl2 bt2 z2 len} {ps : List (Nat × Operand)} {qs : List (Nat × List Value)} {out : List Value} (hT : V0 tb.tab T = some ⟨.slice e, n, fl, bt, z⟩) (hE : V0 tb.tab e = some ⟨k2, n2, fl2, bt2, z2⟩)
    (hn2:z2.length=n2) (hsz:Nat.ble (len * n2) 16777216=true) (hpos:Nat.beq (len * n2) 0=false) (hq:evP ρ ps=qs) (hf:Yfd n2 (Yzb z2 len) qs=some out):
    Gives P ⟨dst,.buildSlice T len ps.toArray,ty,pos,after,guard⟩ ρ L R (fun v L' R'=>∃b,v=.slice (some ⟨b,0,none⟩) len len∧L'=⟨b,out,e⟩ :: L∧R'=R):=by
  intro c w hs a next Q kk
  have hu:=Ut (tb.ok _ _ hT) rfl
  have hsize:=run_sizeOf (tb.ok _ _ hE) w
  obtain ⟨zv,hz1,hz2⟩:=Zp (tb.ok _ _ hE) w
  simp only at hsize hz2
  subst hq
  rw [V6e] at hf
  have hzs:zv.cells.size=n2:=by rw [← hn2,← hz2];simp
  have hme:((Array.range (len * n2)).map (zv.cells[· % zv.cells.size]!))=(Yzb z2 len).toArray:=by
    have:=Y9d zv.cells len
    rw [hz2,hzs] at this
    rw [← this,hzs]
  have hfill:=K2d n2 (ps.map fun p=>(p.1,ρ p.2)) (Yzb z2 len) out hf
  have hmap:(ps.toArray.map fun (p:Nat×Operand)=>(p.1,ρ p.2)).toList=ps.map fun p=>(p.1,ρ p.2):=by simp
  have h24:¬ (len * n2 > 2 ^ 24):=by have:=Nat.le_of_ble_eq_true hsz;omega
  have h0:¬ (len * n2=0):=fun h=>by rw [h] at hpos;cases hpos
  have hgoal:(Instr.buildSlice T len (ps.toArray.map fun (p:Nat×Operand)=>(p.1,ρ p.2))).run P w=.ok (.slice (some ⟨w.heap.size,0,none⟩) len len) (w.alloc (.cells out.toArray e)):=by
    unfold Instr.buildSlice
    simp only [Sem.run_bind,run_underlying hu,Result.andThen_ok,hsize]
    rw [if_neg h24,if_neg h0]
    simp only [Sem.run_bind,hz1,Result.andThen_ok,Sem.run_pure,hmap]
    rw [hme,hfill]
    simp [newRow]
  refine Vq (w':=w.alloc (.cells out.toArray e)) (v:=.slice (some ⟨w.heap.size,0,none⟩) len len) ?_ (kk _ _ _ _ ⟨w.heap.size,rfl,rfl,rfl⟩ (hs.alloc _ _))
  have e1:execOp ρ ⟨dst,.buildSlice T len ps.toArray,ty,pos,after,guard⟩=(do pure (.value (← Instr.buildSlice T len (ps.toArray.map fun (p:Nat×Operand)=>(p.1,ρ p.2))))):=rfl
  rw [e1]
  simp only [Sem.run_bind,hgoal,Result.andThen_ok,Sem.run_pure]
theorem Zm {e n fl bt z k2 n2 fl2 bt2 z2 k3 k4} {m : Nat} {i j : Int} (hT : V0 tb.tab T = some ⟨.slice e, n, fl, bt, z⟩) (hE : V0 tb.tab e = some ⟨k2, n2, fl2, bt2, z2⟩) (hn2 : z2.length = n2)
    (hx:ρ x=.int k3 i) (hy:ρ y=.int k4 j) (hi:i=(m:Int)) (hj:j=(m:Int)) (hb:bt2 * m≤281474976710656) (hm:m≤9223372036854775807):
    Gives P ⟨dst,.makeSlice T x y,ty,pos,after,guard⟩ ρ L R (fun v L' R'=>∃b,v=.slice (some ⟨b,0,none⟩) m m∧L'=⟨b,Yzb z2 m,e⟩ :: L∧R'=R):=by
  intro c w hs a next Q kk
  subst hi;subst hj
  have hu:=Ut (tb.ok _ _ hT) rfl
  obtain ⟨ti,u,zv,h1,h2,h3,h4⟩:=U4 (tb.ok _ _ hE)
  have hsz:ti.size=n2:=by have:=congrArg TI.sz h4;simpa [Vgd] using this.symm
  have hbt:ti.bytes=bt2:=by have:=congrArg TI.bt h4;simpa [Vgd] using this.symm
  have hz:zv.cells.toList=z2:=by have:=congrArg TI.z h4;simpa [Vgd] using this.symm
  have hzs:zv.cells.size=n2:=by rw [← hn2,← hz];simp
  have hb':(ti.bytes:Int) * (m:Int)≤281474976710656:=by
    rw [hbt,← Int.natCast_mul]
    omega
  have hr:=run_make (P:=P) w T e ti zv hu h1 h3 k3 k4 (m:Int) (m:Int) za (Int.le_refl _) hb' za
  have hme:madeCells zv.cells ((m:Int).toNat * ti.size)=(Yzb z2 m).toArray:=by
    have:=Y9d zv.cells m
    rw [hz,hzs] at this
    rw [Int.toNat_natCast,hsz,madeCells,← this,hzs]
  rw [hme,Int.toNat_natCast] at hr
  refine Vq (w':=w.alloc (.cells (Yzb z2 m).toArray e)) (v:=.slice (some ⟨w.heap.size,0,none⟩) m m) ?_ (kk _ _ _ _ ⟨w.heap.size,rfl,rfl,rfl⟩ (hs.alloc _ _))
  simp [execOp,hx,hy,hr]
theorem Vua {e n fl bt z k2 n2 fl2 bt2 z2} {s : Ow} {xs news : List Value} {len m : Nat} {f : List Blk → List Blk} (hT : V0 tb.tab T = some ⟨.slice e, n, fl, bt, z⟩) (hE : V0 tb.tab e = some ⟨k2, n2, fl2, bt2, z2⟩) (hn2 : z2.length = n2)
    (hx:ρ x=s.val len) (hok:s.ok n2 xs len) (hseg:Seg (s.L e xs) L f) (hs:Vqd L R (ρ y) m n2 news) (hm:0 < m) (h1:news.all (·.oneCell')=true) (hlen:len + m≤9223372036854775807) (hby:(len + m) * bt2≤140737488355328):
    Gives P ⟨dst,.call ⟨.builtin .append,#[x,y],#[T,T]⟩,ty,pos,after,guard⟩ ρ L R (fun v L' R'=>∃g cap spare,v=(Ow.own g cap spare).val (len + m)∧(Ow.own g cap spare).ok n2 (xs ++ news) (len + m)∧L'=f ((Ow.own g cap spare).L e (xs ++ news))∧R'=R):=by
  intro c w hst a next Q kk
  have hu:=Ut (tb.ok _ _ hT) rfl
  obtain ⟨ti,u,zv,i1,i2,i3,i4⟩:=U4 (tb.ok _ _ hE)
  have hsz:ti.size=n2:=by have:=congrArg TI.sz i4;simpa [Vgd] using this.symm
  have hbt:ti.bytes=bt2:=by have:=congrArg TI.bt i4;simpa [Vgd] using this.symm
  have hz:zv.cells.toList=z2:=by have:=congrArg TI.z i4;simpa [Vgd] using this.symm
  have hzs:zv.cells.size=n2:=by rw [← hn2,← hz];simp
  obtain ⟨ad,cap2,hy,hnl,hcells⟩:=hs
  have hcw:=hcells c w hst
  obtain ⟨A,B,hL,hf⟩:=hseg.split
  have hone:∀u∈news,u.oneCell'=true:=List.all_eq_true.1 h1
  have e1:execOp ρ ⟨dst,.call ⟨.builtin .append,#[x,y],#[T,T]⟩,ty,pos,after,guard⟩=(do pure (.value (← Builtin.append_ #[T,T] ty #[ρ x,ρ y]))):=by
    simp [execOp,resolve,invoke,builtin]
  have zlen:∀k,(Builtin.zeroCells zv.cells k).toList.length=k * n2:=fun k=>by rw [Array.length_toList,size_zeroCells,hzs]
  -- the ends of both kinds
  have newEnd:∀(old:Nat) (L0:List Blk),L0=A ++ B→St c (A ++ B) R w→old < len + m→xs.length=len * n2→
      (∀wv:World,wv=w.drew.alloc (.cells (xs.toArray ++ news.toArray ++ Builtin.zeroCells zv.cells (grownCap w (len + m) old e - (len + m))) e)→
        next (a.put dst (.slice (some ⟨w.heap.size,0,none⟩) (len + m) (grownCap w (len + m) old e))) wv):=by
    intro old L0 hL0 hst0 ho hxl wv hwv
    have hge:=grownCap_ge w (len + m) old e
    have hcm:grownCap w (len + m) old e≤maxLen:=grownCap_le_maxLen w (len + m) old e zE
    have h2:=(hst0.drew).alloc (xs.toArray ++ news.toArray ++ Builtin.zeroCells zv.cells (grownCap w (len + m) old e - (len + m))) e
    rw [hwv]
    refine kk _ _ R _ ⟨w.heap.size,grownCap w (len + m) old e,(Builtin.zeroCells zv.cells (grownCap w (len + m) old e - (len + m))).toList,rfl,⟨?_,hge,hcm,?_⟩,rfl,rfl⟩ ?_
    · rw [List.length_append,hxl,hnl,Nat.add_mul]
    · rw [List.length_append, List.length_append, hxl, hnl, zlen, ← Nat.add_mul, ← Nat.add_mul]
      congr 1;omega
    · rw [hf]
      refine h2.perm ?_
      simp only [Ow.L,World.size_drew,Array.toList_append,List.append_assoc,List.cons_append,List.nil_append]
      exact List.perm_middle.symm
  cases s with
  | nil=>
    obtain ⟨rfl,rfl⟩:=hok
    simp only [Ow.L,List.append_nil] at hL
    have hr:=run_append_nil (P:=P) w T ty e ti zv hu i1 i3 ad m cap2 news (by rw [hsz];exact hnl) hcw hm za (by rw [hbt];simp only [Nat.zero_add] at hby;omega)
    have hst0:St c (A ++ B) R w:=by rw [← hL];exact hst
    refine Vq (w':=_) (v:=_) (h:=?_) (k:=newEnd 0 _ rfl hst0 za zo _ rfl)
    rw [e1,hx,hy]
    simp only [Ow.val,Sem.run_bind,hr,Result.andThen_ok,Sem.run_pure,Nat.zero_add]
    simp
  | own g cap spare=>
    obtain ⟨o1,o2,o3,o4⟩:=hok
    have hmem:(⟨g,xs ++ spare,e⟩:Blk)∈L:=by rw [hL];simp [Ow.L]
    have hb:w.heap[g]?=some (.cells (xs ++ spare).toArray e (0,0)):=by
      obtain ⟨⟨G,hh,_⟩,_,_⟩:=hst
      exact hh.own _ hmem
    by_cases hroom:len + m≤cap
    · have hfit:len * ti.size + news.length≤(xs ++ spare).toArray.size:=by
        rw [hsz,hnl,List.size_toArray,o4,← Nat.add_mul];exact Nat.mul_le_mul_right _ hroom
      have hr:=run_append_room (P:=P) w T ty e ti hu i1 g len cap (xs ++ spare).toArray hb ad m cap2 news (by rw [hsz];exact hnl) hcw hone hroom hfit
      have hcs:(List.take (len * ti.size) (xs ++ spare).toArray.toList ++ news ++ List.drop (len * ti.size + news.length) (xs ++ spare).toArray.toList)=(xs ++ news) ++ spare.drop news.length:=by
        rw [hsz,← o1]
        simp only [List.take_left',List.append_assoc]
        have h0:List.drop (xs.length + news.length) xs=[]:=List.drop_eq_nil_of_le za
        have h2:xs.length + news.length - xs.length=news.length:=by omega
        rw [List.drop_append,h0,h2,List.nil_append]
      rw [hcs] at hr
      have hu1:Upd1 g (xs ++ spare) e ((xs ++ news) ++ spare.drop news.length) L (f ((Ow.own g cap (spare.drop news.length)).L e (xs ++ news))):=by
        rw [hL,hf]
        simp only [Ow.L,List.append_assoc,List.cons_append,List.nil_append]
        exact .app .here
      refine Vq (w':=_) (v:=_) (h:=?_) (k:=kk (.slice (some ⟨g,0,none⟩) (len + m) cap) _ R _ ⟨g,cap,spare.drop news.length,rfl,⟨?_,hroom,o3,?_⟩,rfl,rfl⟩ (hst.setRow hu1))
      · rw [e1, hx, hy]
        simp only [Ow.val,Sem.run_bind,hr,Result.andThen_ok,Sem.run_pure]
      · rw [List.length_append,o1,hnl,Nat.add_mul]
      · rw [List.length_append] at o4
        have h5:(len + m) * n2≤cap * n2:=Nat.mul_le_mul_right _ hroom
        rw [Nat.add_mul,← o1,← hnl] at h5
        simp only [List.length_append,List.length_drop]
        omega
    · have holds:∀j v,xs[j]?=some v→w.cell? ((⟨g,0,none⟩:Addr).add j)=some v:=fun j v hj=>by
        rw [Kua,Nat.zero_add,Jza hst hmem]
        rw [List.getElem?_append_left (List.getElem?_eq_some_iff.1 hj).1]
        exact hj
      have hr:=run_append_grow (P:=P) w T ty e ti zv hu i1 i3 ⟨g,0,none⟩ len cap xs (by rw [hsz];exact o1) holds ad m cap2 news (by rw [hsz];exact hnl) hcw za za (growslice_fits za (by rw [hbt];exact hby))
      have hst0:St c (A ++ B) R w:=by
        refine hst.weak ?_ (fun r hr=>⟨r,hr,.here⟩)
        rw [hL]
        exact List.Sublist.append (List.sublist_append_left _ _) (List.Sublist.refl _)
      refine Vq (w':=_) (v:=_) (h:=?_) (k:=newEnd cap _ rfl hst0 za o1 _ rfl)
      rw [e1,hx,hy]
      simp only [Ow.val,Sem.run_bind,hr,Result.andThen_ok,Sem.run_pure]
end
theorem St.frz {c : Ctx} {L : List Blk} {R : List Sl} {w : World} {b : Nat} {cs : List Value} {T : TypeId} {wd len cap : Nat} {rows : List (List Value)} {subs : List Sl} (h : St c (⟨b, cs, T⟩ :: L) R w)
    (hl:rows.length=len) (hc:len≤cap) (hm:cap < 9223372036854775808) (hw:∀r∈rows,r.length=wd) (hp:0 < wd) (hcs:cs.take (len * wd)=rows.flatten) (hsub:∀s∈subs,InR s R):
    St c L (.mk wd (some ⟨b,0,none⟩) len cap rows subs :: R) w:=by
  obtain ⟨⟨G,hh,hg⟩,ho,hk⟩:=h
  have hb:=hh.own ⟨b,cs,T⟩ zo
  have hnd:=hh.nd
  simp only [List.map_cons,List.nodup_cons] at hnd
  have up:∀s,Rep w G s→Rep w (fun x=>G x∨x=b) s:=fun s hs=>hs.mono (fun _ h=>.inl h) (fun _ _=>rfl)
  have hlt:b < w.heap.size:=hh.lt (e:=⟨b,cs,T⟩) zo
  refine ⟨⟨fun x=>G x∨x=b,⟨hnd.2,fun e he=>hh.own e (by simp [he]),fun e he hx=>?_,fun x hx=>?_,fun r hr=>?_⟩,fun x hx=>?_⟩,fun e he=>ho e (by simp [he]),hk⟩
  · rcases hx with hx | hx
    · exact hh.ng e (by simp [he]) hx
    · exact hnd.1 (List.mem_map.2 ⟨e,he,hx⟩)
  · rcases hx with hx | rfl
    · exact hh.gs x hx
    · exact hlt
  · rcases List.mem_cons.1 hr with rfl | hr
    · refine .mk hl hc hm hw ?_ (fun s hs => ?_)
      · refine .inr ⟨b, 0, rfl, .inr rfl, fun i j hi hj => ?_⟩
        have h1:w.cell? ⟨b,0 + i * wd + j,none⟩=cs[i * wd + j]?:=by
          simp only [BT.obj] at hb
          simp [World.cell?,hb]
        rw [h1]
        have h2:i * wd + j < len * wd:=by
          have:(i + 1) * wd≤len * wd:=Nat.mul_le_mul_right _ hi
          rw [Nat.succ_mul] at this
          omega
        have h3:cs[i * wd + j]?=rows.flatten[i * wd + j]?:=by
          rw [← hcs,List.getElem?_take,if_pos h2]
        rw [h3,Zla rows hw _ hp]
        have d1:(i * wd + j) / wd=i:=by
          rw [Nat.mul_comm,Nat.mul_add_div hp,Nat.div_eq_of_lt hj,Nat.add_zero]
        have d2:(i * wd + j) % wd=j:=by
          rw [Nat.mul_comm,Nat.mul_add_mod,Nat.mod_eq_of_lt hj]
        rw [d1,d2]
      · obtain ⟨r, hr, hs2⟩ := hsub s hs
        exact up _ ((hh.rep r hr).sub hs2)
    · exact up _ (hh.rep r hr)
  · rcases hx with hx | rfl
    · exact hg x hx
    · rcases ho ⟨x, cs, T⟩ zo with h | h
      · exact .inr (.inr h)
      · exact .inr (.inl h)
theorem Jua {P : Program} {n : Nat} {all : Array Oper} {ops : List Oper} {t : Nat → Value} {L : List Blk} {R : List Sl} {Q : Kp} {b : Nat} {cs : List Value} {T : TypeId} {wd len cap : Nat} {rows : List (List Value)} {subs : List Sl}
    (hl:rows.length=len) (hc:len≤cap) (hm:cap < 9223372036854775808) (hw:∀r∈rows,r.length=wd) (hp:0 < wd) (hcs:cs.take (len * wd)=rows.flatten) (hsub:∀s∈subs,InR s R)
    (h:LJ P n all ops t L (.mk wd (some ⟨b,0,none⟩) len cap rows subs :: R) Q):LJ P n all ops t (⟨b,cs,T⟩ :: L) R Q:=
  fun c a w hf hs=>h c a w hf (hs.frz hl hc hm hw hp hcs hsub)
theorem U2 {P:Program} {n:Nat} {code:Code} {t:Nat→Value} {L L':List Blk} {R R':List Sl} {Q:Kp} (hL:L'.Sublist L) (hR:∀r∈R',InR r R) (h:CJ P n code t L' R' Q):CJ P n code t L R Q:=
  fun c a w hf hs=>h c a w hf (hs.weak hL hR)
end Go.Aw
end
section
namespace Go.Aw
open Go
def Voe (late:List Nat) (Lc Lc2:List Blk) (d:Option Tmp):List Blk:=match d with
  | some d=>bif late.contains d then Lc2 else Lc
  | none=>Lc2
def Jha (late:List Nat) (ops:Array Oper) (k:Nat):Bool:=match (ops[k]?).bind (·.dst) with
  | some d=>late.contains d
  | none=>true
theorem Yad {late:List Nat} {Lc Lc2:List Blk} {ops:Array Oper} {i:Nat} {o:Oper} (hio:ops[i]?=some o):Voe late Lc Lc2 o.dst=if Jha late ops i=true then Lc2 else Lc:=by
  have h:Jha late ops i=(match o.dst with | some d=>late.contains d | none=>true):=by unfold Jha;rw [hio];rfl
  rw [h]
  obtain ⟨d,op,ty,pos,af,g⟩:=o
  cases d with
  | none=>rfl
  | some d=>
    simp only [Voe]
    by_cases hc:late.contains d=true
    · rw [if_pos hc,hc];rfl
    · rw [if_neg hc,Bool.eq_false_iff.2 hc];rfl
def DJ3 (P : Program) (tb : Tabs P) (n : Nat) (all : Array Oper) (late : List Nat) (Lc Lc2 : List Blk) (K : Kp) : List Oper → (Nat → Value) → List Blk → List Sl → Prop
  | [],t,L,R=>K .normal t L R
  | o :: rest,t,L,R=>dOk n o.dst=true∧
    ((V1 all t o.guard=false∧Uu o.op≠1∧DJ3 P tb n all late Lc Lc2 K rest (Ygb t o.dst undef) L R)∨
     (V1 all t o.guard=true∧Uu o.op=0∧∃v,YV P o (ev t) (Voe late Lc Lc2 o.dst) R v∧DJ3 P tb n all late Lc Lc2 K rest (Ygb t o.dst v) L R)∨
     (Uu o.op=1∧∃T,o.op=.alloc T∧∀b,DJ3 P tb n all late Lc Lc2 K rest (Ygb t o.dst (.pointer (some ⟨b,0,none⟩))) (⟨b,zT tb T,T⟩ :: L) R)∨
     (V1 all t o.guard=true∧Uu o.op=2∧∃Post,Gives P o (ev t) L R Post∧∀v L' R',Post v L' R'→Lc.Sublist L'∧(∀r∈R,InR r R')∧DJ3 P tb n all late Lc Lc2 K rest (Ygb t o.dst v) L' R'))
def Vue (ops:Array Oper) (i:Nat) (D:List Nat) (k:Nat):Bool:=Nat.beq k i || (match ops[k]? with
    | some o=>o.after.any fun e=>Region.binds .any e && D.contains e.on
    | none=>false)
def Zud (ops:Array Oper) (i:Nat) (plan:List Nat):List Nat:=plan.foldl (fun D k=>bif Vue ops i D k then k :: D else D) []
def Ypd (n:Nat) (p1:List Nat) (D:List Nat):Array Bool:=(Array.range n).map fun i=>p1.contains i && !D.contains i
def Closed (ops:Array Oper) (listed:Array Bool):Prop:=∀j oj,ops[j]?=some oj→listed.getD j true=true→∀e∈oj.after,Region.binds .any e=true→listed.getD e.on false=true
theorem Closed.set {ops:Array Oper} {listed:Array Bool} (h:Closed ops listed) {j:Nat} (hj:j∈Region.ready .any ops listed):Closed ops (listed.setIfInBounds j true):=by
  intro k ok hk hl e he hb
  by_cases hkj:j=k
  · subst hkj
    obtain ⟨_,o,ho,hall⟩:=mem_ready.1 hj
    obtain rfl:o=ok:=Option.some.inj (ho.symm.trans hk)
    exact getD_set_true (hall e he hb)
  · rw [getD_set_ne true hkj] at hl
    exact getD_set_true (h k ok hk hl e he hb)
theorem Closed.zero {ops:Array Oper}:Closed ops (Array.replicate ops.size false):=by
  intro j oj hj hl
  have:j < ops.size:=(Array.getElem?_eq_some_iff.1 hj).1
  simp [this] at hl
theorem Ykb {ops:Array Oper} {i:Nat} {listed:Array Bool} (hc:Closed ops listed) (hi:listed.getD i true=false) (plan:List Nat):∀k∈Zud ops i plan,listed.getD k true=false:=by
  have key:∀(plan D:List Nat),(∀k∈D,listed.getD k true=false)→∀k∈plan.foldl (fun D k=>bif Vue ops i D k then k :: D else D) D,listed.getD k true=false:=by
    intro plan
    induction plan with
    | nil=>intro D h;exact h
    | cons x plan ih=>
      intro D h
      rw [List.foldl_cons]
      refine ih _ ?_
      cases hx:Vue ops i D x with
      | false=>rw [cond_false];exact h
      | true=>
        rw [cond_true]
        intro k hk
        rcases List.mem_cons.1 hk with rfl | hk
        · simp only [Vue, Bool.or_eq_true, Nat.beq_eq] at hx
          rcases hx with rfl | hx
          · exact hi
          · cases ho:ops[k]? with
            | none=>rw [ho] at hx;cases hx
            | some o=>
              rw [ho] at hx
              obtain ⟨e,he,hx⟩:=Array.any_eq_true'.1 hx
              simp only [Bool.and_eq_true] at hx
              cases hl:listed.getD k true with
              | false=>rfl
              | true=>
                have h1:=hc k o ho hl e he hx.1
                have h2:=h e.on (by simpa using hx.2)
                rcases Nat.lt_or_ge e.on listed.size with h' | h'
                · simp [h'] at h1 h2;rw [h1] at h2;cases h2
                · simp [Array.getElem?_eq_none h'] at h1
        · exact h k hk
  exact key plan [] (fun k hk=>by cases hk)
def zOk (late:List Nat) (ops:Array Oper) (p1 p2:List Nat):Bool:=
  (p2.all fun k=>!Nat.beq (Vo ops k) 1 && !p1.contains k) &&
  (p1.all fun k=>Nat.blt k ops.size && (!Nat.beq (Vo ops k) 0 || Jha late ops k || (Region.ready .any ops (Ypd ops.size p1 (Zud ops k p1))).all fun j=>!p2.contains j)) &&
  ((List.range ops.size).all fun k=>p1.contains k || p2.contains k)
section
variable {P:Program} {ops:Array Oper} {late:List Nat} {Q:Exit→Act→World→Prop} {S S2:World→Prop} {p1 p2:List Nat}
theorem Uqe (h:zOk late ops p1 p2=true) {k:Nat} (hk:k∈p2):Vo ops k≠1:=by
  simp only [zOk,Bool.and_eq_true] at h
  have:=List.all_eq_true.1 h.1.1 k hk
  simp only [Bool.and_eq_true] at this
  intro e
  rw [e] at this
  exact absurd this.1 zc
theorem Jpb (h:zOk late ops p1 p2=true) {k:Nat} (hk:k∈p2):k ∉ p1:=by
  simp only [zOk,Bool.and_eq_true] at h
  have:=List.all_eq_true.1 h.1.1 k hk
  simp only [Bool.and_eq_true,Bool.not_eq_true'] at this
  intro hm
  rw [List.contains_iff_mem.2 hm] at this
  cases this.2
theorem Uje (h : zOk late ops p1 p2 = true) {i : Nat} (hi : i ∈ p1) (hk : Vo ops i = 0) (hp : Jha late ops i = false) {listed : Array Bool} (hcl : Closed ops listed) (hls : listed.size = ops.size) (hInv : ∀ k ∈ p2, listed.getD k true = false) (hl : listed.getD i true = false)
    {j:Nat} (hj:j∈Region.ready .any ops listed):j ∉ p2:=by
  simp only [zOk,Bool.and_eq_true] at h
  obtain ⟨⟨_,h1⟩,hcov⟩:=h
  have h2:=List.all_eq_true.1 h1 i hi
  simp only [hk,hp,Bool.and_eq_true] at h2
  have h3:((Region.ready .any ops (Ypd ops.size p1 (Zud ops i p1))).all fun j=>!p2.contains j)=true:=by
    have h4:=h2.2
    rw [show Nat.beq 0 0=true from rfl] at h4
    simpa using h4
  intro hj2
  obtain ⟨h0,o,ho,hall⟩:=mem_ready.1 hj
  have hjlt:j < ops.size:=(Array.getElem?_eq_some_iff.1 ho).1
  have hjp:j ∉ p1:=Jpb (by simp only [zOk,Bool.and_eq_true];exact ⟨⟨by assumption,h1⟩,hcov⟩) hj2
  have:j∈Region.ready .any ops (Ypd ops.size p1 (Zud ops i p1)):=by
    refine mem_ready.2 ⟨by simp [Ypd,hjlt,hjp],o,ho,fun e he hb=>?_⟩
    have h5:=hall e he hb
    have hlt:e.on < ops.size:=by
      rcases Nat.lt_or_ge e.on listed.size with h' | h'
      · rw [hls] at h';exact h'
      · simp [Array.getElem?_eq_none h'] at h5
    have h6:listed.getD e.on true=true:=by
      have:e.on < listed.size:=by rw [hls];exact hlt
      simp [this] at h5 ⊢;exact h5
    have hin:e.on∈p1:=by
      have h7:=List.all_eq_true.1 hcov e.on (List.mem_range.2 hlt)
      simp only [Bool.or_eq_true,List.contains_iff_mem] at h7
      rcases h7 with h | h
      · exact h
      · rw [hInv _ h] at h6;cases h6
    have hne:e.on ∉ Zud ops i p1:=fun he=>by rw [Ykb hcl hl p1 _ he] at h6;cases h6
    simp [Ypd,hlt,hin,hne]
  have:=List.all_eq_true.1 h3 j this
  rw [List.contains_iff_mem.2 hj2] at this
  cases this
def wpZ (P : Program) (ops : Array Oper) (Q : Exit → Act → World → Prop) (S S2 : World → Prop) (p2 : List Nat) : Nat → Array Bool → Act → World → Prop
  | 0,listed,a,w=>Region.ready .any ops listed=[]∧Q .normal a w
  | fuel + 1,listed,a,w=>(Region.ready .any ops listed=[]→Q .normal a w)∧
      ∀i∈Region.ready .any ops listed,wpOp P ops Q i (fun a' w'=>(S2 w'∧(p2.any (fun k=>(listed.setIfInBounds i true).getD k false)=true∨S w'))∧wpZ P ops Q S S2 p2 fuel (listed.setIfInBounds i true) a' w') a w
theorem Vza : ∀ (fuel : Nat) (listed : Array Bool) (a : Act) (w : World), wpZ P ops Q S S2 p2 fuel listed a w → wpAny P .any ops Q fuel listed a w
  | 0,_,_,_,h=>h
  | fuel + 1,_,_,_,h=>⟨h.1,fun i hi=>wpOp_mono (fun a' w' h'=>Vza fuel _ a' w' h'.2) (h.2 i hi)⟩
theorem U4b {fuel : Nat} {listed : Array Bool} {a : Act} {w : World} (hne : Region.ready .any ops listed ≠ [])
    (h:∀i∈Region.ready .any ops listed,wpOp P ops Q i (fun a' w'=>(S2 w'∧(p2.any (fun k=>(listed.setIfInBounds i true).getD k false)=true∨S w'))∧wpZ P ops Q S S2 p2 fuel (listed.setIfInBounds i true) a' w') a w):wpZ P ops Q S S2 p2 (fuel + 1) listed a w:=
  ⟨fun h0=>absurd h0 hne,h⟩
theorem J6c {S' S2' : World → Prop} (hS : ∀ w, S' w → S w) (hS2 : ∀ w, S2' w → S2 w) : ∀ (f : Nat) (l : Array Bool) (a : Act) (w : World), wpZ P ops Q S' S2' p2 f l a w → wpZ P ops Q S S2 p2 f l a w
  | 0,_,_,_,h=>h
  | f + 1,_,_,_,h=>⟨h.1,fun i hi=>wpOp_mono (fun a' w' h'=>⟨⟨hS2 _ h'.1.1,h'.1.2.imp id (hS _)⟩,J6c hS hS2 f _ a' w' h'.2⟩) (h.2 i hi)⟩
theorem Vub {listed:Array Bool} (h:∀k∈p2,listed.getD k true=false):p2.any (fun k=>listed.getD k false)=false:=by
  cases hb:p2.any (fun k=>listed.getD k false) with
  | false=>rfl
  | true=>
    obtain ⟨k,hk,hl⟩:=List.any_eq_true.1 hb
    have:=h k hk
    rcases Nat.lt_or_ge k listed.size with h' | h'
    · simp [h'] at this hl;rw [this] at hl;cases hl
    · simp [Array.getElem?_eq_none h'] at hl
theorem Kld {i : Nat} {oi : Oper} {v : Value} (hz : zOk late ops p1 p2 = true) (hi1 : i ∈ p1) (hk0 : Vo ops i = 0) (hi : ops[i]? = some oi) (hsel : ∀ (j : Nat) (o : Oper) cs b, ops[j]? = some o → o.op ≠ .select cs b)
    (hQ : ∀ c a w, Q (.panic c) (a.put oi.dst v) w → Q (.panic c) a w) (fuel : Nat) (listed : Array Bool) (a : Act) (w : World) (hcl : Closed ops listed) (hls : listed.size = ops.size) (hInv : ∀ k ∈ p2, listed.getD k true = false)
      (hfree:∀j oj,ops[j]?=some oj→j≠i→listed.getD j true=false→(∀e∈oj.after,Region.binds .any e=true→e.on≠i)→oi.apart ops oj=true)
      (hr:i∈Region.ready .any ops listed) (hy:YieldsIf P ops (if Jha late ops i=true then S2 else S) oi v a) (hS:S w) (hSS:∀w,S w→S2 w)
      (H:wpZ P ops Q S S2 p2 fuel (listed.setIfInBounds i true) (a.put oi.dst v) w):wpZ P ops Q S S2 p2 (fuel + 1) listed a w:=by
  -- what holds of it for as long as it has not come up
  let Z:World→Prop:=if Jha late ops i=true then S2 else S
  have hyZ:YieldsIf P ops Z oi v a:=hy
  have hZS:∀w,S w→Z w:=by
    intro w hw
    show (if Jha late ops i=true then S2 else S) w
    split
    · exact hSS w hw
    · exact hw
  have hZp:Jha late ops i=true→∀w,S2 w→Z w:=by
    intro hp w hw
    show (if Jha late ops i=true then S2 else S) w
    rw [if_pos hp];exact hw
  have hz2:Jha late ops i=false→∀listed:Array Bool,Closed ops listed→listed.size=ops.size→(∀k∈p2,listed.getD k true=false)→listed.getD i true=false→∀j∈Region.ready .any ops listed,j ∉ p2:=fun hp listed hcl hls hInv hl j hj=>
    Uje hz hi1 hk0 hp hcl hls hInv hl hj
  have hi2:i ∉ p2:=fun h=>Jpb hz h hi1
  clear hz hy
  -- along all orders
  have main:∀(fuel:Nat) (listed:Array Bool) (a:Act) (w:World),Closed ops listed→listed.size=ops.size→(Jha late ops i=false→∀k∈p2,listed.getD k true=false)→
      (∀j oj,ops[j]?=some oj→j≠i→listed.getD j true=false→(∀e∈oj.after,Region.binds .any e=true→e.on≠i)→oi.apart ops oj=true)→
      i∈Region.ready .any ops listed→YieldsIf P ops Z oi v a→Z w→S2 w→(p2.any (fun k=>listed.getD k false)=true∨S w)→
      wpZ P ops Q S S2 p2 fuel (listed.setIfInBounds i true) (a.put oi.dst v) w→wpZ P ops Q S S2 p2 (fuel + 1) listed a w:=by
    intro fuel
    induction fuel with
    | zero=>
      intro listed a w _ hls hInv _ hr hy hZ hS2 hS H
      refine U4b (List.ne_nil_of_mem hr) fun j hj=>?_
      by_cases hji:j=i
      · subst hji
        refine hy.wpOp hi hZ ⟨⟨hS2,hS.imp (fun h=>?_) id⟩,H⟩
        obtain ⟨k,hk,hl⟩:=List.any_eq_true.1 h
        exact List.any_eq_true.2 ⟨k,hk,getD_set_true hl⟩
      · have := ready_mono hj hji
        rw [H.1] at this
        cases this
    | succ fuel ih=>
      intro listed a w hcl hls hInv hfree hr hy hZ hS2 hS H
      refine U4b (List.ne_nil_of_mem hr) fun j hj=>?_
      by_cases hji:j=i
      · subst hji
        refine hy.wpOp hi hZ ⟨⟨hS2,hS.imp (fun h=>?_) id⟩,H⟩
        obtain ⟨k,hk,hl⟩:=List.any_eq_true.1 h
        exact List.any_eq_true.2 ⟨k,hk,getD_set_true hl⟩
      · have h1 := H.2 j (ready_mono hj hji)
        obtain ⟨hjun,oj,hoj,hall⟩:=mem_ready.1 hj
        have hnot:∀e∈oj.after,Region.binds .any e=true→e.on≠i:=fun e he hb heq=>by
          have h1:=hall e he hb
          have h0:=(mem_ready.1 hr).1
          rw [heq] at h1
          rcases Nat.lt_or_ge i listed.size with h' | h'
          · simp [h'] at h0 h1;rw [h0] at h1;cases h1
          · simp [Array.getElem?_eq_none h'] at h1
        have hfree':∀k ok,ops[k]?=some ok→k≠i→(listed.setIfInBounds j true).getD k true=false→(∀e∈ok.after,Region.binds .any e=true→e.on≠i)→oi.apart ops ok=true:=by
          intro k ok hk hne hl hno
          refine hfree k ok hk hne ?_ hno
          by_cases hjk:j=k
          · subst hjk;exact hjun
          · rwa [getD_set_ne true hjk] at hl
        have hls':(listed.setIfInBounds j true).size=ops.size:=by simp [hls]
        have hInv':Jha late ops i=false→∀k∈p2,(listed.setIfInBounds j true).getD k true=false:=fun hp k hk=>by
          have hj2:=hz2 hp listed hcl hls (hInv hp) (mem_ready.1 hr).1 j hj
          rw [getD_set_ne true (show ¬ j=k from fun e=>hj2 (e ▸ hk))];exact hInv hp k hk
        have h2:=wpOp_putIf hoj (hfree j oj hoj hji hjun hnot) (fun cs b=>hsel i oi cs b hi) (fun cs b=>hsel j oj cs b hoj) hQ hy h1
        have back:∀{l:Array Bool},p2.any (fun k=>(l.setIfInBounds i true).getD k false)=true→p2.any (fun k=>l.getD k false)=true:=by
          intro l h
          obtain ⟨k,hk,hl⟩:=List.any_eq_true.1 h
          refine List.any_eq_true.2 ⟨k,hk,?_⟩
          rwa [getD_set_ne false (show ¬ i=k from fun e=>hi2 (e ▸ hk))] at hl
        refine wpOp_mono (fun a' w' h3=>?_) h2
        obtain ⟨hy',⟨hc2,hc⟩,hrec⟩:=h3
        have hcomm:(listed.setIfInBounds i true).setIfInBounds j true=(listed.setIfInBounds j true).setIfInBounds i true:=by
          first
            | exact Array.setIfInBounds_comm _ _ hji
            | exact Array.setIfInBounds_comm _ _ (Ne.symm hji)
        rw [hcomm] at hrec hc
        have hc':p2.any (fun k=>(listed.setIfInBounds j true).getD k false)=true∨S w':=hc.imp (fun h=>back h) id
        have hZ':Z w':=by
          cases hp:Jha late ops i with
          | true=>exact hZp hp w' hc2
          | false=>exact hZS w' (hc'.resolve_left (by rw [Vub (hInv' hp)];decide))
        exact ⟨⟨hc2,hc'⟩,ih (listed.setIfInBounds j true) a' w' (hcl.set hj) hls' hInv' hfree' (ready_mono hr (Ne.symm hji)) hy' hZ' hc2 hc' hrec⟩
  exact main fuel listed a w hcl hls (fun _=>hInv) hfree hr hyZ (hZS w hS) (hSS w hS) (.inr hS) H
end
section
variable {P:Program} {tb:Tabs P} {n:Nat} {ops:Array Oper} {c:Ctx} {Lc:List Blk} {K:Kp}
theorem Vzb {Q:Exit→Act→World→Prop} {S S2:World→Prop} {p2:List Nat}:∀(fuel:Nat) (listed:Array Bool) (a:Act) (w:World),listed.size=ops.size→(∀k,k < ops.size→k ∉ p2→listed.getD k true=true)→
    wpAnyH P .any ops Q S2 fuel listed a w→wpZ P ops Q S S2 p2 fuel listed a w
  | 0,_,_,_,_,_,h=>h
  | fuel + 1,listed,_,_,hls,hall,h=>⟨h.1,fun i hi=>by
    obtain ⟨h0,o,ho,_⟩:=mem_ready.1 hi
    have hilt:i < ops.size:=(Array.getElem?_eq_some_iff.1 ho).1
    have hi2:i∈p2:=by
      rcases Classical.em (i∈p2) with h | h
      · exact h
      · rw [hall i hilt h] at h0;cases h0
    refine wpOp_mono (fun a' w' h'=>⟨⟨h'.1,.inl (List.any_eq_true.2 ⟨i,hi2,K7 (by rw [hls];exact hilt) false⟩)⟩,Vzb fuel _ a' w' (by simp [hls]) (fun k hk hn=>?_) h'.2⟩) (h.2 i hi)
    by_cases hik:i=k
    · subst hik;exact K7 (by rw [hls];exact hilt) true
    · rw [getD_set_ne true hik];exact hall k hk hn⟩
theorem Zac {Q2 : Kp} {p2 : List Nat} {Lc2 : List Blk} {S : World → Prop} (hsel : Region.noSelect ops = true) (hal : Uya tb n ops = true) {os : List Oper} {fuel : Nat} {done listed : Array Bool} {t : Nat → Value} {L : List Blk} {R : List Sl} {a : Act} {w : World}
    (hos:p2.map (ops[·]?)=os.map some) (hpl:Kqa ops done p2=true) (hE:EOk tb n ops done listed []) (hds:done.size=ops.size) (hfu:p2.length≤fuel) (hcov:∀i,i < ops.size→done.getD i true=false→i∈p2) (hfr:Fr n (ovr t []) a) (hst:St c (Yub tb [] ++ L) R w) (hL2:Lc2.Sublist L)
    (hdj:DJ P tb n ops Lc2 Q2 os t L R):wpZ P ops (Y0a n c Q2) S (St c Lc2 R) p2 fuel listed a w:=by
  refine Vzb fuel listed a w (by rw [hE.size,hds]) (fun k hk hn=>?_) ?_
  · cases hd:done.getD k true with
    | true=>exact (hE.listed k true).2 (.inl hd)
    | false=>exact absurd (hcov k hk hd) hn
  · exact V7e hsel hal (fuel + p2.length) fuel p2 os done listed [] t L R a w (Nat.le_refl _) (by simpa using hfu) hos hpl hE (fun e he=>by cases he) hds hcov hfr hst hL2 hdj
theorem Yqe {Q2:Kp} {os2:List Oper} {late p1 p2:List Nat} {Lc2:List Blk} (hL2:Lc2.Sublist Lc) (hz:zOk late ops p1 p2=true) (hos2:p2.map (ops[·]?)=os2.map some) (hK:K=fun _ t L R=>DJ P tb n ops Lc2 Q2 os2 t L R) (hsel:Region.noSelect ops=true) (hal:Uya tb n ops=true):∀(m fuel:Nat) (plan:List Nat) (os:List Oper) (done listed:Array Bool) (E:List Early) (t:Nat→Value) (L:List Blk) (R:List Sl) (a:Act) (w:World),
    fuel + plan.length≤m→plan.length + p2.length≤fuel + E.length→plan.map (ops[·]?)=os.map some→Kqa ops done (plan ++ p2)=true→(∀k∈plan,k∈p1)→(∀k∈p2,done.getD k true=false)→Closed ops listed→EOk tb n ops done listed E→(∀e∈E,e.i∈plan)→done.size=ops.size→
    (∀i,i < ops.size→done.getD i true=false→i∈plan∨i∈p2)→
    Fr n (ovr t E) a→St c (Yub tb E ++ L) R w→Lc.Sublist L→DJ3 P tb n ops late Lc Lc2 K os t L R→wpZ P ops (Y0a n c Q2) (St c Lc R) (St c Lc2 R) p2 fuel listed a w:=by
  intro m
  induction m with
  | zero=>
    intro fuel plan os done listed E t L R a w hm hfu hos hpl hp1 hd2 hcl hE hEp hds hcov hfr hst hLc hdj
    obtain rfl:plan=[]:=by cases plan with | nil=>rfl | cons x l=>simp at hm
    obtain rfl:E=[]:=by cases E with | nil=>rfl | cons e E=>exact absurd (hEp e zo) zo
    obtain rfl:os=[]:=by cases os with | nil=>rfl | cons x l=>simp at hos
    exact Zac hsel hal hos2 hpl hE hds (by simpa using hfu) (by simpa using hcov) hfr hst (hL2.trans hLc) (by rw [hK] at hdj;exact hdj)
  | succ m ih=>
    intro fuel plan os done listed E t L R a w hm hfu hos hpl hp1 hd2 hcl hE hEp hds hcov hfr hst hLc hdj
    have hS:St c Lc R w:=hst.weak (hLc.trans (List.sublist_append_right _ _)) (fun r hr=>⟨r,hr,.here⟩)
    have hls:listed.size=ops.size:=by rw [hE.size,hds]
    have hInv:∀k∈p2,listed.getD k true=false:=by
      intro k hk
      cases hl:listed.getD k true with
      | false=>rfl
      | true=>
        rcases (hE.listed k true).1 hl with h | ⟨e,he,hi⟩
        · rw [hd2 k hk] at h;cases h
        · exact absurd (hp1 _ (hEp e he)) (by rw [hi];exact Jpb hz hk)
    -- a making of a variable that comes up early
    have early:∀(f:Nat),fuel=f + 1→∀j,j∈Region.ready .any ops listed→Vo ops j=1→
        wpOp P ops (Y0a n c Q2) j (fun a' w'=>(St c Lc2 R w'∧(p2.any (fun k=>(listed.setIfInBounds j true).getD k false)=true∨St c Lc R w'))∧wpZ P ops (Y0a n c Q2) (St c Lc R) (St c Lc2 R) p2 f (listed.setIfInBounds j true) a' w') a w:=by
      intro f hf j hj hkj
      obtain ⟨h0,oj,hoj,hall⟩:=mem_ready.1 hj
      have hkj':Uu oj.op=1:=by simpa [Vo,hoj] using hkj
      obtain ⟨T,hT⟩:=Y4a hkj'
      obtain ⟨hg,⟨ti,hti⟩,⟨d,hd,hdn,hdw⟩,hfree⟩:=Uea hal hoj hT
      obtain ⟨zv,hz1,hz2⟩:=Zp (tb.ok _ _ hti) w
      have hjd:done.getD j true=false:=by
        cases hd:done.getD j true with
        | false=>rfl
        | true=>rw [(hE.listed j true).2 (.inl hd)] at h0;cases h0
      have hjE:∀e∈E,e.i≠j:=fun e he hi=>by rw [(hE.listed j true).2 (.inr ⟨e,he,hi⟩)] at h0;cases h0
      have hzT:zv.cells.toList=zT tb T:=by rw [hz2];simp [zT,hti]
      have hst':St c (Yub tb (⟨j,d,w.heap.size,T⟩ :: E) ++ L) R (w.alloc (.cells zv.cells T)):=by
        have:=hst.alloc zv.cells T
        rw [hzT] at this
        exact this
      unfold wpOp
      simp only [hoj]
      rw [hfr.wanted,hg]
      simp only [V1,if_true]
      refine .inl ?_
      have hrun:(execOp a.eval oj).run P w=.ok (.value (.pointer (some ⟨w.heap.size,0,none⟩))) (w.alloc (.cells zv.cells T)):=by
        obtain ⟨od,oo,ot,op,oa,og⟩:=oj
        simp only at hT
        subst hT
        simp [execOp,Instr.alloc,hz1,newVar,newRow]
      unfold Oper.wp
      rw [hrun]
      refine ⟨⟨hst'.weak ((hL2.trans hLc).trans (List.sublist_append_right _ _)) (fun r hr=>⟨r,hr,.here⟩),.inr (hst'.weak (hLc.trans (List.sublist_append_right _ _)) (fun r hr=>⟨r,hr,.here⟩))⟩,?_⟩
      have hjlt:j < ops.size:=(Array.getElem?_eq_some_iff.1 hoj).1
      have hjl:j < listed.size:=by rw [hE.size,hds];exact hjlt
      have hjp:j∈plan:=(hcov j hjlt hjd).resolve_right fun h=>Uqe hz h hkj
      refine ih f plan os done _ (⟨j,d,w.heap.size,T⟩ :: E) t L R _ _ za (by simp only [List.length_cons];omega) hos hpl hp1 hd2 (hcl.set hj) ?_ ?_ hds hcov ?_ hst' hLc hdj
      · refine ⟨by simp [hE.size], fun k dd => ?_, fun e he => ?_, fun e he => ?_, ?_, ?_⟩
        · by_cases hk : j = k
          · subst hk
            rw [K7 hjl]
            simp
          · rw [getD_set_ne dd hk, hE.listed k dd]
            simp [hk]
        · rcases List.mem_cons.1 he with rfl | he
          · exact ⟨oj,hoj,hT,hd,hg⟩
          · exact hE.op e he
        · rcases List.mem_cons.1 he with rfl | he
          · exact hjd
          · exact hE.fresh e he
        · simp only [List.map_cons, List.nodup_cons]
          exact ⟨fun hm=>by obtain ⟨e,he,hi⟩:=List.mem_map.1 hm;exact hjE e he hi,hE.nd⟩
        · simp only [List.map_cons, List.nodup_cons]
          refine ⟨fun hm=>?_,hE.ndd⟩
          obtain ⟨e,he,hi⟩:=List.mem_map.1 hm
          obtain ⟨oe,h1,h2,h3,h4⟩:=hE.op e he
          exact hdw e.i oe h1 (hjE e he) (by rw [h3,hi])
      · intro e he
        rcases List.mem_cons.1 he with rfl | he
        · exact hjp
        · exact hEp e he
      · have := hfr.put (d := oj.dst) (by rw [hd]; simpa [dOk] using hdn) (.pointer (some ⟨w.heap.size, 0, none⟩))
        rw [hd] at this ⊢
        exact this
    cases plan with
    | nil=>
      obtain rfl:E=[]:=by cases E with | nil=>rfl | cons e E=>exact absurd (hEp e zo) zo
      obtain rfl:os=[]:=by cases os with | nil=>rfl | cons x l=>simp at hos
      exact Zac hsel hal hos2 hpl hE hds (by simpa using hfu) (by simpa using hcov) hfr hst (hL2.trans hLc) (by rw [hK] at hdj;exact hdj)
    | cons i rest=>
      cases os with
      | nil=>simp at hos
      | cons o os=>
        simp only [List.map_cons,List.cons.injEq] at hos
        obtain ⟨hio,hos⟩:=hos
        simp only [List.cons_append,Kqa,Bool.and_eq_true] at hpl
        obtain ⟨⟨hir,hkind⟩,hpl'⟩:=hpl
        have hir:i∈Region.ready .any ops done:=by simpa using hir
        obtain ⟨hi0,o',ho',hpre⟩:=mem_ready.1 hir
        obtain rfl:o'=o:=Option.some.inj (ho'.symm.trans hio)
        have hilt:i < ops.size:=(Array.getElem?_eq_some_iff.1 hio).1
        have hids:i < done.size:=by rw [hds];exact hilt
        have hka:Vo ops i=Uu o'.op:=by simp [Vo,hio]
        have hcov':∀k,k < ops.size→(done.setIfInBounds i true).getD k true=false→k∈rest∨k∈p2:=by
          intro k hk hd
          by_cases hki:i=k
          · subst hki;rw [K7 hids] at hd;cases hd
          · rw [getD_set_ne true hki] at hd
            rcases hcov k hk hd with h | h
            · rcases List.mem_cons.1 h with h | h
              · exact absurd h.symm hki
              · exact .inl h
            · exact .inr h
        have hp1':∀k∈rest,k∈p1:=fun k hk=>hp1 k (List.mem_cons_of_mem _ hk)
        have hi1:i∈p1:=hp1 i zo
        have hd2':∀k∈p2,(done.setIfInBounds i true).getD k true=false:=fun k hk=>by
          rw [getD_set_ne true (show ¬ i=k from fun e=>Jpb hz hk (e ▸ hi1))];exact hd2 k hk
        have hds':(done.setIfInBounds i true).size=ops.size:=by simp [hds]
        have hdone:∀k,done.getD k true=true→∀d,listed.getD k d=true∨k ≥ done.size:=by
          intro k hk d
          rcases Nat.lt_or_ge k done.size with h' | h'
          · exact .inl ((hE.listed k d).2 (.inl (by simp [h'] at hk ⊢;exact hk)))
          · exact .inr h'
        obtain ⟨hd,hdj⟩:=hdj
        -- if the operation is no making of a variable, it has not come up, and is apart from the early ones
        have notE:Uu o'.op≠1→∀e∈E,e.i≠i:=by
          intro hk e he hi
          obtain ⟨oe,h1,h2,_,_⟩:=hE.op e he
          rw [hi] at h1
          obtain rfl:oe=o':=Option.some.inj (h1.symm.trans hio)
          exact hk (Zha h2)
        have cnt:Uu o'.op≠1→E.length≤rest.length:=by
          intro hk
          have:=Vs (E.map (·.i)) rest hE.nd (fun x hx=>by
            obtain ⟨e,he,rfl⟩:=List.mem_map.1 hx
            rcases List.mem_cons.1 (hEp e he) with h | h
            · exact absurd h (notE hk e he)
            · exact h)
          simpa using this
        have hready:Uu o'.op≠1→i∈Region.ready .any ops listed:=by
          intro hk
          refine mem_ready.2 ⟨?_,o',hio,fun e he hb=>(hE.listed _ _).2 (.inl (hpre e he hb))⟩
          cases hl:listed.getD i true with
          | false=>rfl
          | true=>
            rcases (hE.listed i true).1 hl with h | ⟨e,he,hi⟩
            · rw [h] at hi0;cases hi0
            · exact absurd hi (notE hk e he)
        have apart:Uu o'.op≠1→∀e∈E,e.d ∉ o'.looksAt ops∧o'.dst≠some e.d:=fun hk=>Vyb hal hE hio (notE hk) hpre
        have hEp':Uu o'.op≠1→∀e∈E,e.i∈rest:=fun hk e he=>by
          rcases List.mem_cons.1 (hEp e he) with h | h
          · exact absurd h (notE hk e he)
          · exact h
        have frame:Uu o'.op≠1→∀v,Fr n (ovr (Ygb t o'.dst v) E) (a.put o'.dst v):=fun hk v=>by
          rw [← Uib (fun e he=>(apart hk e he).2)]
          exact hfr.put hd v
        have hwant:Uu o'.op≠1→Region.wanted o' (yielded ops a.tmps)=V1 ops t o'.guard:=fun hk=>by
          rw [hfr.wanted,Kmd (fun e he=>(apart hk e he).1)]
        have hexec:Uu o'.op≠1→execOp a.eval o'=execOp (ev t) o':=fun hk=>by
          rw [hfr.eval]
          exact Krd (ops:=ops) (fun cs b=>Region.noSelect_spec hsel i o' cs b hio) (fun e he=>(apart hk e he).1)
        rcases Kdd o'.op with hk | hk | hk
        · -- it leaves the world alone
          have hk1:Uu o'.op≠1:=by rw [hk];decide
          have hlen:=cnt hk1
          obtain ⟨f,rfl⟩:∃f,fuel=f + 1:=⟨fuel - 1,by simp only [List.length_cons] at hfu;omega⟩
          rw [hka,hk] at hkind
          have hfree:∀j oj,ops[j]?=some oj→j≠i→listed.getD j true=false→(∀e∈oj.after,Region.binds .any e=true→e.on≠i)→o'.apart ops oj=true:=by
            intro j oj hj hne hl hno
            refine Region.free_spec hio hkind j oj hj hne ?_ hno
            cases hd:done.getD j true with
            | false=>rfl
            | true=>rw [(hE.listed j true).2 (.inl hd)] at hl;cases hl
          have hlc:=Yad (late:=late) (Lc:=Lc) (Lc2:=Lc2) hio
          have hSif:∀w',(if Jha late ops i=true then St c Lc2 R else St c Lc R) w'→St c (Voe late Lc Lc2 o'.dst) R w':=by
            intro w' hw'
            rw [hlc]
            split at hw'
            · rename_i h;rw [if_pos h];exact hw'
            · rename_i h;rw [if_neg h];exact hw'
          have go:∀v,YieldsIf P ops (if Jha late ops i=true then St c Lc2 R else St c Lc R) o' v a→DJ3 P tb n ops late Lc Lc2 K os (Ygb t o'.dst v) L R→wpZ P ops (Y0a n c Q2) (St c Lc R) (St c Lc2 R) p2 (f + 1) listed a w:=by
            intro v hy hdj'
            refine Kld hz hi1 (by rw [hka];exact hk) hio (Region.noSelect_spec hsel) (fun _ _ _ h=>h.1.elim) f listed a w hcl hls hInv hfree (hready hk1) hy hS (fun w hw=>hw.weak hL2 (fun r hr=>⟨r,hr,.here⟩)) ?_
            exact ih f rest os _ _ E _ L R _ w zM zP hos hpl' hp1' hd2' (hcl.set (hready hk1)) (hE.step (notE hk1) hids) (hEp' hk1) hds' hcov' (frame hk1 v) hst hLc hdj'
          rcases hdj with ⟨hw,_,hdj'⟩ | ⟨hw,_,v,hv,hdj'⟩ | ⟨h1,_⟩ | ⟨_,h2,_⟩
          · exact go undef (.inr ⟨by rw [hwant hk1];exact hw,rfl⟩) hdj'
          · exact go v (.inl ⟨by rw [hwant hk1];exact hw,fun w' hw'=>by rw [hexec hk1];exact hv c w' (hSif w' hw')⟩) hdj'
          · exact absurd h1 hk1
          · rw [hk] at h2;cases h2
        · -- it makes a variable
          rw [hka,hk] at hkind
          rcases hdj with ⟨_,h1,_⟩ | ⟨_,h2,_⟩ | ⟨_,T,hT,hdj'⟩ | ⟨_,h2,_⟩
          · exact absurd hk h1
          · rw [hk] at h2;cases h2
          · by_cases hin : ∃ e ∈ E, e.i = i
            · -- it has come up early
              obtain ⟨e,he,hei⟩:=hin
              obtain ⟨oe,h1,h2,h3,h4⟩:=hE.op e he
              rw [hei] at h1
              obtain rfl:oe=o':=Option.some.inj (h1.symm.trans hio)
              obtain rfl:e.T=T:=by rw [h2] at hT;exact Op.alloc.inj hT
              obtain ⟨E1,E2,rfl⟩:=List.append_of_mem he
              have hmem:∀x∈E1 ++ E2,x∈E1 ++ e :: E2:=fun x hx=>by
                rcases List.mem_append.1 hx with h | h
                · exact List.mem_append_left _ h
                · exact List.mem_append_right _ (List.mem_cons_of_mem _ h)
              have hni:∀x∈E1 ++ E2,x.i≠i:=by
                intro x hx hxi
                have hn:=hE.nd
                rw [List.map_append,List.map_cons,List.nodup_append,List.nodup_cons] at hn
                rcases List.mem_append.1 hx with h | h
                · exact hn.2.2 x.i (List.mem_map.2 ⟨x,h,rfl⟩) e.i zo (by rw [hxi,hei])
                · exact hn.2.1.1 (List.mem_map.2 ⟨x,h,by rw [hxi,hei]⟩)
              refine ih fuel rest os _ listed (E1 ++ E2) _ _ R a w zM zQa hos hpl' hp1' hd2' hcl ?_ ?_ hds' hcov' ?_ ?_ (hLc.cons _) (hdj' e.b)
              · refine ⟨by rw [hE.size]; simp, fun k d => ?_, fun x hx => hE.op x (hmem x hx), fun x hx => ?_, ?_, ?_⟩
                · rw [hE.listed k d]
                  by_cases hk:i=k
                  · subst hk
                    rw [K7 hids]
                    simp only [true_or,iff_true]
                    exact .inr ⟨e,he,hei⟩
                  · rw [getD_set_ne d hk]
                    refine or_congr Iff.rfl ⟨fun ⟨x,hx,hxk⟩=>?_,fun ⟨x,hx,hxk⟩=>⟨x,hmem x hx,hxk⟩⟩
                    rcases List.mem_append.1 hx with h | h
                    · exact ⟨x,List.mem_append_left _ h,hxk⟩
                    · rcases List.mem_cons.1 h with rfl | h
                      · exact absurd (hei.symm.trans hxk) hk
                      · exact ⟨x,List.mem_append_right _ h,hxk⟩
                · rw [getD_set_ne true (Ne.symm (hni x hx))]
                  exact hE.fresh x (hmem x hx)
                · exact hE.nd.sublist (List.Sublist.map _ (List.Sublist.append (List.Sublist.refl _) (List.sublist_cons_self _ _)))
                · exact hE.ndd.sublist (List.Sublist.map _ (List.Sublist.append (List.Sublist.refl _) (List.sublist_cons_self _ _)))
              · intro x hx
                rcases List.mem_cons.1 (hEp x (hmem x hx)) with h | h
                · exact absurd h (hni x hx)
                · exact h
              · rw [h3]
                have:=V6b (t:=t) hE.ndd
                rw [this] at hfr
                exact hfr
              · refine hst.perm ?_
                simp only [Yub,List.map_append,List.map_cons,List.append_assoc,List.cons_append]
                refine List.Perm.append_left _ ?_
                exact (List.perm_middle (l₁:=E2.map fun e=>(⟨e.b,zT tb e.T,e.T⟩:Blk))).symm
            · -- it has not: whatever comes up now makes a variable
              have hin':∀e∈E,e.i≠i:=fun e he hi=>hin ⟨e,he,hi⟩
              have hrl:i∈Region.ready .any ops listed:=by
                refine mem_ready.2 ⟨?_,o',hio,fun e he hb=>(hE.listed _ _).2 (.inl (hpre e he hb))⟩
                cases hl:listed.getD i true with
                | false=>rfl
                | true=>
                  rcases (hE.listed i true).1 hl with h | ⟨e,he,hi⟩
                  · rw [h] at hi0;cases hi0
                  · exact absurd hi (hin' e he)
              have hlen:E.length + 1≤(i :: rest).length:=by
                have:=Vs (i :: E.map (·.i)) (i :: rest) (List.nodup_cons.2 ⟨fun hm=>by obtain ⟨e,he,hi⟩:=List.mem_map.1 hm;exact hin' e he hi,hE.nd⟩) (fun x hx=>by
                  rcases List.mem_cons.1 hx with rfl | hx
                  · simp
                  · obtain ⟨e, he, rfl⟩ := List.mem_map.1 hx
                    exact hEp e he)
                simpa using this
              obtain ⟨f,rfl⟩:∃f,fuel=f + 1:=⟨fuel - 1,by omega⟩
              refine U4b (List.ne_nil_of_mem hrl) fun j hj=>early f rfl j hj ?_
              by_cases hkj:Vo ops j=1
              · exact hkj
              · have := Uga (p := fun k => !Nat.beq k i) hE (fun e he => by simp [Yjd (hin' e he)]) hds hj hkj
                exact absurd (Nat.eq_of_beq_eq_true (List.all_eq_true.1 hkind j this)) hkj
          · rw [hk] at h2;cases h2
        · -- it turns the world
          have hk1:Uu o'.op≠1:=by rw [hk];decide
          have hlen:=cnt hk1
          obtain ⟨f,rfl⟩:∃f,fuel=f + 1:=⟨fuel - 1,by simp only [List.length_cons] at hfu;omega⟩
          rw [hka,hk] at hkind
          refine U4b (List.ne_nil_of_mem (hready hk1)) fun j hj=>?_
          by_cases hkj:Vo ops j=1
          · exact early f rfl j hj hkj
          · have hji := Uga (p := fun _ => true) hE (fun _ _ => rfl) hds hj hkj
            have:=List.all_eq_true.1 hkind j hji
            obtain rfl:j=i:=by simpa using this
            unfold wpOp
            simp only [hio]
            rw [hwant hk1]
            rcases hdj with ⟨hw,_,hdj'⟩ | ⟨_,h2,_⟩ | ⟨h1,_⟩ | ⟨hw,_,Post,hg,hdj'⟩
            · rw [hw, if_neg zo]
              exact ⟨⟨hS.weak hL2 (fun r hr=>⟨r,hr,.here⟩),.inr hS⟩,ih f rest os _ _ E _ L R _ w zM zP hos hpl' hp1' hd2' (hcl.set (hready hk1)) (hE.step (notE hk1) hids) (hEp' hk1) hds' hcov' (frame hk1 undef) hst hLc hdj'⟩
            · rw [hk] at h2;cases h2
            · exact absurd h1 hk1
            · rw [hw, if_pos rfl]
              refine .inl (Kxb (hexec hk1) ?_)
              refine (hg.frame (Yub tb E)) c w hst a _ _ ?_
              rintro v L'' R' w' ⟨L',rfl,hp⟩ hst'
              obtain ⟨hLc',hR',hdj''⟩:=hdj' v L' R' hp
              refine ⟨⟨hst'.weak ((hL2.trans hLc').trans (List.sublist_append_right _ _)) hR',.inr (hst'.weak (hLc'.trans (List.sublist_append_right _ _)) hR')⟩,?_⟩
              refine J6c (S':=St c Lc R') (S2':=St c Lc2 R') (fun x hx=>hx.weak (List.Sublist.refl _) hR') (fun x hx=>hx.weak (List.Sublist.refl _) hR') _ _ _ _ ?_
              exact ih f rest os _ _ E _ L' R' _ w' zM zP hos hpl' hp1' hd2' (hcl.set (hready hk1)) (hE.step (notE hk1) hids) (hEp' hk1) hds' hcov' (frame hk1 v) hst' hLc' hdj''
end
theorem Kj {P : Program} (tb : Tabs P) {n id : Nat} {ops : List Oper} {t : Nat → Value} {L : List Blk} {R : List Sl} {Q : Kp} (late plan p2 : List Nat) (Lc Lc2 : List Blk) (hm : P.follows .mixedOrders = true) (hB : (Upb tb n ops.toArray (plan ++ p2) && zOk late ops.toArray plan p2) = true) (hLc : Lc.Sublist L) (hL2 : Lc2.Sublist Lc)
    (h:DJ3 P tb n ops.toArray late Lc Lc2 (fun _ t L R=>DJ P tb n ops.toArray Lc2 Q (Jpa ops p2) t L R) (Jpa ops plan) t L R):CJ P n (.region id ops.toArray true) t L R Q:=by
  simp only [Bool.and_eq_true] at hB
  obtain ⟨hB,hz⟩:=hB
  simp only [Upb,Bool.and_eq_true] at hB
  obtain ⟨⟨⟨⟨h1,h2⟩,h3⟩,h4⟩,h5⟩:=hB
  have hlt:∀i∈plan ++ p2,i < ops.length:=fun i hi=>by simpa using List.all_eq_true.1 h5 i hi
  intro c a w hf hs
  refine wp_region_any hm (Vza (S:=St c Lc R) (S2:=St c Lc2 R) (p2:=p2) _ _ _ _ ?_)
  refine Yqe (tb:=tb) (Lc:=Lc) (p2:=p2) (os2:=Jpa ops p2) hL2 hz (Jjb ops p2 fun i hi=>hlt i (List.mem_append_right _ hi)) rfl h1 h2 (ops.toArray.size + plan.length) ops.toArray.size plan (Jpa ops plan) (Array.replicate ops.toArray.size false) _ [] t L R a _ (Nat.le_refl _) ?_ (Jjb ops plan fun i hi=>hlt i (List.mem_append_left _ hi)) h3 (fun _ h=>h) (fun k hk=>by have:=hlt k (List.mem_append_right _ hk);simp [this]) Closed.zero ?_ (fun e he=>by cases he) zo ?_ hf ?_ hLc h
  · have key:∀(pl:List Nat) (done:Array Bool),Kqa ops.toArray done pl=true→pl.Nodup∧∀i∈pl,done.getD i true=false:=by
      intro pl
      induction pl with
      | nil=>intro _ _;exact ⟨List.nodup_nil,fun i hi=>by cases hi⟩
      | cons i pl ih=>
        intro done hp
        simp only [Kqa,Bool.and_eq_true] at hp
        obtain ⟨hn,hd⟩:=ih _ hp.2
        have hr:i∈Region.ready .any ops.toArray done:=by simpa using hp.1.1
        obtain ⟨h0,_⟩:=mem_ready.1 hr
        refine ⟨List.nodup_cons.2 ⟨fun hm=>?_,hn⟩,fun k hk=>?_⟩
        · have := hd i hm
          rcases Nat.lt_or_ge i done.size with h' | h'
          · rw [K7 h'] at this;cases this
          · simp [Array.getElem?_eq_none h'] at h0
        · rcases List.mem_cons.1 hk with rfl | hk
          · exact h0
          · by_cases hik : i = k
            · subst hik;exact h0
            · have := hd k hk
              rwa [getD_set_ne true hik] at this
    have:=Vs (plan ++ p2) (List.range ops.length) (key _ _ h3).1 (fun i hi=>List.mem_range.2 (hlt i hi))
    simpa using this
  · exact ⟨by simp,fun i d=>by simp,by simp,by simp,List.nodup_nil,List.nodup_nil⟩
  · intro i hi _
    have:=List.all_eq_true.1 h4 i (List.mem_range.2 hi)
    simpa using this
  · exact St.drew hs
section
variable {P:Program} {tb:Tabs P} {n:Nat} {all:Array Oper} {late:List Nat} {Lc Lc2:List Blk} {K:Kp} {op:Op} {ty:TypeId} {pos:String} {after:Array Edge} {rest:List Oper} {t:Nat→Value} {L L':List Blk} {R R':List Sl} {d:Tmp} {v:Value} {g:Option (Nat×Bool)} {T:TypeId} {x y:Operand}
theorem Yhd {Q:Kp} {os2:List Oper} (h:DJ P tb n all Lc2 Q os2 t L R):DJ3 P tb n all late Lc Lc2 (fun _ t L R=>DJ P tb n all Lc2 Q os2 t L R) [] t L R:=h
theorem Kx (hv:YV P ⟨some d,op,ty,pos,after,g⟩ (ev t) Lc R v) (hl:late.contains d=false) (hk:Uu op=0) (hg:V1 all t g=true) (hd:Nat.blt d n=true) (h:DJ3 P tb n all late Lc Lc2 K rest (upd t d v) L R):DJ3 P tb n all late Lc Lc2 K (⟨some d,op,ty,pos,after,g⟩ :: rest) t L R:=
  ⟨hd,.inr (.inl ⟨hg,hk,v,by simp only [Voe];rw [hl];exact hv,h⟩)⟩
theorem V8 (hv:YV P ⟨some d,op,ty,pos,after,g⟩ (ev t) Lc2 R v) (hl:late.contains d=true) (hk:Uu op=0) (hg:V1 all t g=true) (hd:Nat.blt d n=true) (h:DJ3 P tb n all late Lc Lc2 K rest (upd t d v) L R):DJ3 P tb n all late Lc Lc2 K (⟨some d,op,ty,pos,after,g⟩ :: rest) t L R:=
  ⟨hd,.inr (.inl ⟨hg,hk,v,by simp only [Voe];rw [hl];exact hv,h⟩)⟩
theorem Jzc (hk:Nat.beq (Uu op) 1=false) (hg:V1 all t g=false) (hd:Nat.blt d n=true) (h:DJ3 P tb n all late Lc Lc2 K rest (upd t d undef) L R):DJ3 P tb n all late Lc Lc2 K (⟨some d,op,ty,pos,after,g⟩ :: rest) t L R:=
  ⟨hd,.inl ⟨hg,fun e=>by simp [e] at hk,h⟩⟩
theorem Y6c {Post : Yn} (hg : Gives P ⟨some d, op, ty, pos, after, g⟩ (ev t) L R Post) (hk : Uu op = 2) (hw : V1 all t g = true) (hd : Nat.blt d n = true)
    (h:∀v L' R',Post v L' R'→Lc.Sublist L'∧(∀r∈R,InR r R')∧DJ3 P tb n all late Lc Lc2 K rest (upd t d v) L' R'):DJ3 P tb n all late Lc Lc2 K (⟨some d,op,ty,pos,after,g⟩ :: rest) t L R:=
  ⟨hd,.inr (.inr (.inr ⟨hw,hk,Post,hg,h⟩))⟩
theorem Vi {f : FuncId} {xs : List Operand} {ts : Array TypeId} {args : List Value} {Post : Yn} (ha : xs.map (ev t) = args) (h : Tri P f args.toArray L R Post) (hw : V1 all t g = true) (hd : Nat.blt d n = true)
    (k:∀v L' R',Post v L' R'→Lc.Sublist L'∧(∀r∈R,InR r R')∧DJ3 P tb n all late Lc Lc2 K rest (upd t d v) L' R'):DJ3 P tb n all late Lc Lc2 K (⟨some d,.call ⟨.value (.func f),xs.toArray,ts⟩,ty,pos,after,g⟩ :: rest) t L R:=
  Y6c (K3a zna rfl h) rfl hw hd k
theorem K3d {os:List Oper} {k:Nat} {b:Bool} (hb:t k=.bool b) (h1:b=true→DJ3 P tb n all late Lc Lc2 K os (upd t k (.bool true)) L R) (h2:b=false→DJ3 P tb n all late Lc Lc2 K os (upd t k (.bool false)) L R):DJ3 P tb n all late Lc Lc2 K os t L R:=by
  cases b with
  | true=>have:=h1 rfl;rwa [Yia hb] at this
  | false=>have:=h2 rfl;rwa [Yia hb] at this
end
theorem Tri.at {P f args X L R F} {Post:Yn} (hseg:Seg X L F) (h:Tri P f args X R Post):Tri P f args L R (fun v L'' R'=>∃L',L''=F L'∧Post v L' R'):=by
  obtain ⟨A,B,hL,hF⟩:=hseg.split
  refine ⟨h.1,fun w G hh=>?_⟩
  subst hL
  have hp:(A ++ X ++ B).Perm ((A ++ B) ++ X):=by
    rw [List.append_assoc,List.append_assoc]
    exact List.Perm.append_left _ List.perm_append_comm
  have hh':Holds ((A ++ B) ++ X) G R w:=⟨(hp.map _).nodup_iff.1 hh.nd,fun e he=>hh.own e (hp.mem_iff.2 he),fun e he=>hh.ng e (hp.mem_iff.2 he),hh.gs,hh.rep⟩
  have hX:Holds X G R w:=⟨(List.nodup_append.1 (by have:=hh'.nd;rwa [List.map_append] at this)).2.1,fun e he=>hh'.own e (List.mem_append_right _ he),fun e he=>hh'.ng e (List.mem_append_right _ he),hh'.gs,hh'.rep⟩
  refine (h.2 w G hX).mono fun e w' ⟨v,L',R',he,hpost,hst⟩=>⟨v,F L',R',he,⟨L',rfl,hpost⟩,?_⟩
  have h1:=St.frame hh' hst
  rw [hF]
  have hp2:((A ++ B) ++ L').Perm (A ++ L' ++ B):=by
    rw [List.append_assoc,List.append_assoc]
    exact List.Perm.append_left _ List.perm_append_comm
  have h2:=h1.perm hp2
  refine ⟨?_,?_,?_⟩
  · obtain ⟨G', hG', hg⟩ := h2.G
    refine ⟨G',hG',fun b hb=>?_⟩
    rcases hg b hb with h | h | ⟨e,he,hb'⟩
    · exact .inl h
    · exact .inr (.inl h)
    · exact .inr (.inr ⟨e,hp.mem_iff.2 he,hb'⟩)
  · intro e he
    rcases h2.own e he with ⟨e',he',hb'⟩ | h
    · exact .inl ⟨e',hp.mem_iff.2 he',hb'⟩
    · exact .inr h
  · have k := h2.keep
    refine ⟨k.os,k.tape,k.output,k.size,fun b hb hn=>k.block b hb fun ⟨e,he,hb'⟩=>hn ⟨e,hp.mem_iff.2 he,hb'⟩,k.frz⟩
theorem Zec {P n code t L R} {Q:Kp} {s:Sl} (hs:∀w G,(∀r∈R,Rep w G r)→Rep w G s) (h:CJ P n code t L (s :: R) Q):CJ P n code t L R Q:=by
  intro c a w hf hst
  refine h c a w hf ?_
  obtain ⟨⟨G,hh,hg⟩,ho,hk⟩:=hst
  refine ⟨⟨G,⟨hh.nd,hh.own,hh.ng,hh.gs,fun r hr=>?_⟩,hg⟩,ho,hk⟩
  rcases List.mem_cons.1 hr with rfl | hr
  · exact hs w G hh.rep
  · exact hh.rep r hr
inductive USeg (b : Nat) (cs : List Value) (T : TypeId) : List Blk → (List Value → List Blk) → Prop
  | here {L}:USeg b cs T (⟨b,cs,T⟩ :: L) (fun cs'=>⟨b,cs',T⟩ :: L)
  | cons {x L f} (h:USeg b cs T L f):USeg b cs T (x :: L) (fun cs'=>x :: f cs')
  | app {X L f} (h:USeg b cs T L f):USeg b cs T (X ++ L) (fun cs'=>X ++ f cs')
theorem USeg.split {b cs T L f} (h:USeg b cs T L f):∃A B,L=A ++ ([⟨b,cs,T⟩] ++ B)∧∀cs',f cs'=A ++ ([⟨b,cs',T⟩] ++ B):=by
  induction h with
  | @here L=>exact ⟨[],L,rfl,fun _=>rfl⟩
  | @cons x L f _ ih=>obtain ⟨A,B,h1,h2⟩:=ih;exact ⟨x :: A,B,by simp [h1],fun cs'=>by simp [h2]⟩
  | @app X L f _ ih=>obtain ⟨A,B,h1,h2⟩:=ih;exact ⟨X ++ A,B,by simp [h1],fun cs'=>by simp [h2]⟩
theorem Tri.at1 {P f args b cs T L F R} {Post:Yn} {Post':Value→List Value→List Sl→Prop} (hseg:USeg b cs T L F) (h:Tri P f args [⟨b,cs,T⟩] R Post) (hp:∀v L' R',Post v L' R'→∃cs',[⟨b,cs',T⟩]=L'∧Post' v cs' R'):
    Tri P f args L R (fun v L'' R'=>∃cs',F cs'=L''∧Post' v cs' R'):=by
  obtain ⟨A,B,hL,hF⟩:=hseg.split
  subst hL
  refine (Tri.at (.app .here) h).mono ?_
  rintro v L'' R' ⟨L',rfl,hpost⟩
  obtain ⟨cs',rfl,h'⟩:=hp v L' R' hpost
  exact ⟨cs',hF cs',h'⟩
end Go.Aw
end
section
namespace Go.Aw
open Go
section
variable {P:Program} {ρ:Operand→Value} {L:List Blk} {R:List Sl} {dst:Option Tmp} {ty:TypeId} {pos:String} {after:Array Edge} {guard:Option (Nat×Bool)} {T T2:TypeId} {x y z:Operand} {a b c:Int} {k:IntKind}
theorem Jde {n:Int} (h1:0≤n) (h2:n≤18446744073709551615):IntKind.u64.wrap n=n:=by
  rw [IntKind.wrap_u64];omega
theorem Jsc (hx:ρ x=.int .u64 a) (hy:ρ y=.int .u64 b) (h1:0≤a + b) (h2:a + b≤18446744073709551615):
    YV P ⟨dst,.binOp .add T x y T2,ty,pos,after,guard⟩ ρ L R (.int .u64 (a + b)):=by
  have:=Y1b (P:=P) (L:=L) (R:=R) (dst:=dst) (ty:=ty) (pos:=pos) (after:=after) (guard:=guard) (T:=T) (T2:=T2) hx hy
  rwa [Jde h1 h2] at this
theorem Y0c (hx:ρ x=.int .u64 a) (hy:ρ y=.int .u64 b) (h1:0≤a * b) (h2:a * b≤18446744073709551615):
    YV P ⟨dst,.binOp .mul T x y T2,ty,pos,after,guard⟩ ρ L R (.int .u64 (a * b)):=by
  have:=Vrc (P:=P) (L:=L) (R:=R) (dst:=dst) (ty:=ty) (pos:=pos) (after:=after) (guard:=guard) (T:=T) (T2:=T2) hx hy
  rwa [Jde h1 h2] at this
theorem Yed (hx:ρ x=.int .u64 a) (hy:ρ y=.int .u64 b) (ha:0≤a) (ha2:a≤18446744073709551615) (hb:0 < b):YV P ⟨dst,.binOp .quo T x y T2,ty,pos,after,guard⟩ ρ L R (.int .u64 (a / b)):=by
  have:=Kjd (P:=P) (L:=L) (R:=R) (dst:=dst) (ty:=ty) (pos:=pos) (after:=after) (guard:=guard) (T:=T) (T2:=T2) hx hy za
  rw [Int.tdiv_eq_ediv_of_nonneg ha] at this
  have h1:0≤a / b:=Int.ediv_nonneg ha za
  have h2:a / b≤a:=Int.ediv_le_self _ ha
  rwa [Jde h1 za] at this
theorem Z8d (hx:ρ x=.int .u64 a) (hy:ρ y=.int .u64 b) (ha:0≤a) (hb:0 < b):YV P ⟨dst,.binOp .rem T x y T2,ty,pos,after,guard⟩ ρ L R (.int .u64 (a % b)):=by
  have:=Z2d (P:=P) (L:=L) (R:=R) (dst:=dst) (ty:=ty) (pos:=pos) (after:=after) (guard:=guard) (T:=T) (T2:=T2) hx hy za
  rwa [Int.tmod_eq_emod_of_nonneg ha] at this
theorem Vnb (hx:ρ x=.int .u64 a) (hy:ρ y=.int .u64 4294967295) (h1:0≤a) (h2:a≤18446744073709551615):
    YV P ⟨dst,.binOp .and T x y T2,ty,pos,after,guard⟩ ρ L R (.int .u64 (a % 4294967296)):=fun _ _ _=>by
  obtain ⟨n,rfl⟩:∃n:Nat,a=(n:Int):=⟨a.toNat,by omega⟩
  have e:(BitVec.ofInt IntKind.u64.bits ((n:Nat):Int) &&& BitVec.ofInt IntKind.u64.bits 4294967295).toNat=n % 4294967296:=by
    show (BitVec.ofInt 64 ((n:Nat):Int) &&& BitVec.ofInt 64 4294967295).toNat=n % 4294967296
    rw [BitVec.ofInt_natCast,BitVec.toNat_and,BitVec.toNat_ofNat,Nat.mod_eq_of_lt za]
    exact Nat.and_two_pow_sub_one_eq_mod n 32
  have e2:IntKind.u64.wrap ((n % 4294967296:Nat):Int)=((n:Int) % 4294967296):=by rw [Jde za za];omega
  have hb:Op.intBits .and .u64 ((n:Nat):Int) 4294967295=(pure (.int .u64 ((n:Int) % 4294967296)):Sem Value):=by
    unfold Op.intBits
    dsimp only
    rw [e,e2]
  simp [execOp,hx,hy,eqGuard,binOp,hb]
theorem Jcb (hx:ρ x=.int .u64 a) (hy:ρ y=.int k 32):YV P ⟨dst,.binOp .shr T x y T2,ty,pos,after,guard⟩ ρ L R (.int .u64 (a / 4294967296)):=fun _ _ _=>by
  have e:a.fdiv (2 ^ 32)=a / 4294967296:=by rw [Int.fdiv_eq_ediv_of_nonneg _ zc];rfl
  have e0:min (32:Int).toNat IntKind.u64.bits=32:=by decide
  have hb:Op.shift .shr .u64 a k 32=(pure (.int .u64 (a / 4294967296)):Sem Value):=by
    unfold Op.shift
    rw [if_neg zc]
    dsimp only
    rw [e0,e]
  simp [execOp,hx,hy,eqGuard,binOp,hb]
theorem Ywe {ts:Array TypeId} (hx:ρ x=.int k a) (hy:ρ y=.int k b) (hz:ρ z=.int k c):YV P ⟨dst,.call ⟨.builtin .min,#[x,y,z],ts⟩,ty,pos,after,guard⟩ ρ L R (.int k (min (min a b) c)):=fun _ w _=>by
  simp only [execOp,resolve,invoke,builtin,Builtin.min_,List.map_toArray,List.map_cons,List.map_nil,hx,hy,hz]
  have h1:(if b < a then b else a)=min a b:=by rw [Int.min_def];split <;> split <;> omega
  have h2:(if c < min a b then c else min a b)=min (min a b) c:=by rw [Int.min_def (min a b) c];split <;> split <;> omega
  simp [Builtin.min2,h1,h2]
theorem Zre {ts:Array TypeId} (hx:ρ x=.int k a) (hy:ρ y=.int k b) (hz:ρ z=.int k c):YV P ⟨dst,.call ⟨.builtin .max,#[x,y,z],ts⟩,ty,pos,after,guard⟩ ρ L R (.int k (max (max a b) c)):=fun _ w _=>by
  simp only [execOp,resolve,invoke,builtin,Builtin.max_,List.map_toArray,List.map_cons,List.map_nil,hx,hy,hz]
  have h1:(if b > a then b else a)=max a b:=by rw [Int.max_def];split <;> split <;> omega
  have h2:(if c > max a b then c else max a b)=max (max a b) c:=by rw [Int.max_def (max a b) c];split <;> split <;> omega
  simp [Builtin.max2,h1,h2]
variable (tb:Tabs P)
theorem Uqa {k' : IntKind} {n1 n2 f1 f2 b1 b2 z1 z2} (h1 : V0 tb.tab T = some ⟨.int k', n1, f1, b1, z1⟩) (h2 : V0 tb.tab T2 = some ⟨.int .u64, n2, f2, b2, z2⟩) (hx : ρ x = .int k' a)
    (h3:0≤a) (h4:a≤18446744073709551615):YV P ⟨dst,.convert T T2 x,ty,pos,after,guard⟩ ρ L R (.int .u64 a):=by
  have:=J3a (P:=P) (L:=L) (R:=R) (dst:=dst) (ty:=ty) (pos:=pos) (after:=after) (guard:=guard) tb h1 h2 hx
  rwa [Jde h3 h4] at this
def V3e (P:Program) (T f:Nat):Option TypeId:=match P.underlying T with
  | some (.struct fs)=>(fs[f]?).map (·.type)
  | _=>none
theorem Uac {e f off n n2 sz : Nat} {fl fl2 : List (Nat × Nat)} {bt z bt2 z2 k2} {cs : List Value} {v : Value} (hT : V0 tb.tab T = some ⟨.struct, n, fl, bt, z⟩) (hft : V3e P T f = some e) (hE : V0 tb.tab e = some ⟨k2, n2, fl2, bt2, z2⟩) (hk : k2.isAgg = false)
    (hx:ρ x=.agg cs.toArray) (hf:fl[f]?=some (off,sz)) (hv:cs[off]?=some v):
    YV P ⟨dst,.field T x f,ty,pos,after,guard⟩ ρ L R v:=fun _ w _=>by
  obtain ⟨fs,hu,hfl⟩:=Vka (tb.ok _ _ hT) rfl
  simp only at hfl
  subst hfl
  rw [List.getElem?_map] at hf
  obtain ⟨fd,hfd,he⟩:=Option.map_eq_some_iff.1 hf
  obtain ⟨h1,h2⟩:=Prod.mk.inj he
  have hfd':fs[f]?=some fd:=by rw [← Array.getElem?_toList];exact hfd
  have hte:fd.type=e:=by simpa [V3e,hu,hfd'] using hft
  have hag:=Uyb (tb.ok _ _ hE) w
  rw [show (TI.mk k2 n2 fl2 bt2 z2).k.isAgg=false from hk,← hte] at hag
  subst h1
  simp [execOp,hx,Instr.field,run_underlying hu,hfd',asAgg,part,hag,hv]
end
end Go.Aw
end
section
namespace Go.Aw
open Go
def WZ (P:Program) (n:Nat) (ops:Array Oper) (Lc Lc2:List Blk) (Q:Kp) (p2:List Nat) (m:Nat) (done:Array Bool) (t:Nat→Value) (L:List Blk) (R:List Sl):Prop:=
  ∀c a w,Closed ops done→done.size=ops.size→(∀k∈p2,done.getD k true=false)→Fr n t a→St c L R w→Lc.Sublist L→∀fuel,m + p2.length≤fuel→wpZ P ops (Y0a n c Q) (St c Lc R) (St c Lc2 R) p2 fuel done a w
def Zld (ops:Array Oper) (p1:List Nat) (done:Array Bool) (i:Nat):Bool:=p1.contains i && ((Region.ready .any ops done).contains i && Region.free .any ops done i)
def Kbd (ops:Array Oper) (p1:List Nat) (done:Array Bool) (l:List Nat):Bool:=!l.isEmpty && ((Region.ready .any ops done == l) && l.all fun j=>p1.contains j)
def Yje (ops:Array Oper) (done:Array Bool) (p2:List Nat):Bool:=Kqa ops done p2 && (List.range ops.size).all fun i=>done.getD i true || p2.contains i
def Y8a {P:Program} (tb:Tabs P) (n:Nat) (ops:Array Oper) (late p1 p2:List Nat):Bool:=Region.noSelect ops && (Uya tb n ops && zOk late ops p1 p2)
section
variable {P:Program} {tb:Tabs P} {n m:Nat} {ops:Array Oper} {late p1 p2:List Nat} {Lc Lc2:List Blk} {Q:Kp} {done:Array Bool} {t:Nat→Value} {L:List Blk} {R:List Sl}
theorem U3e {i : Nat} {o : Oper} {v : Value} (hT : Y8a tb n ops late p1 p2 = true) (hL2 : Lc2.Sublist Lc) (hok : Zld ops p1 done i = true) (hio : ops[i]? = some o) (hk : Uu o.op = 0) (hw : V1 ops t o.guard = true) (hd : dOk n o.dst = true)
    (hv:YV P o (ev t) (Voe late Lc Lc2 o.dst) R v) (h:WZ P n ops Lc Lc2 Q p2 m (done.setIfInBounds i true) (Ygb t o.dst v) L R):WZ P n ops Lc Lc2 Q p2 (m + 1) done t L R:=by
  intro c a w hcl hds hInv hfr hst hLc fuel hfu
  simp only [Y8a,Bool.and_eq_true] at hT
  simp only [Zld,Bool.and_eq_true] at hok
  obtain ⟨hsel,_,hz⟩:=hT
  obtain ⟨hi1,hr,hfree⟩:=hok
  have hi1:i∈p1:=by simpa using hi1
  have hr:i∈Region.ready .any ops done:=by simpa using hr
  obtain ⟨f,rfl⟩:∃f,fuel=f + 1:=⟨fuel - 1,by omega⟩
  have hka:Vo ops i=0:=by simp [Vo,hio,hk]
  have hS:St c Lc R w:=hst.weak hLc (fun r hr=>⟨r,hr,.here⟩)
  have hlc:=Yad (late:=late) (Lc:=Lc) (Lc2:=Lc2) hio
  have hSif:∀w',(if Jha late ops i=true then St c Lc2 R else St c Lc R) w'→St c (Voe late Lc Lc2 o.dst) R w':=by
    intro w' hw'
    rw [hlc]
    split at hw'
    · rename_i h;rw [if_pos h];exact hw'
    · rename_i h;rw [if_neg h];exact hw'
  have hexec:execOp a.eval o=execOp (ev t) o:=by rw [hfr.eval]
  refine Kld (late := late) hz hi1 hka hio (Region.noSelect_spec hsel) (fun _ _ _ h => h.1.elim) f done a w hcl hds hInv (fun j oj hj hne hl hno => Region.free_spec hio hfree j oj hj hne hl hno) hr
    (v:=v) (.inl ⟨by rw [hfr.wanted];exact hw,fun w' hw'=>by rw [hexec];exact hv c w' (hSif w' hw')⟩) hS (fun w hw=>hw.weak hL2 (fun r hr=>⟨r,hr,.here⟩)) ?_
  refine h c _ w (hcl.set hr) (by simp [hds]) (fun k hk2=>?_) (hfr.put hd v) hst hLc f za
  have hne:i≠k:=fun e=>Jpb hz hk2 (e ▸ hi1)
  rw [getD_set_ne true hne]
  exact hInv k hk2
def U4e (P:Program) (n:Nat) (ops:Array Oper) (Lc Lc2:List Blk) (Q:Kp) (p2:List Nat) (m:Nat) (done:Array Bool) (t:Nat→Value) (L:List Blk) (R:List Sl) (j:Nat):Prop:=
  ∃o,ops[j]?=some o∧V1 ops t o.guard=true∧dOk n o.dst=true∧∃Post,Gives P o (ev t) L R Post∧∀v L' R',Post v L' R'→Lc.Sublist L'∧(∀r∈R,InR r R')∧WZ P n ops Lc Lc2 Q p2 m (done.setIfInBounds j true) (Ygb t o.dst v) L' R'
def WSteps (P : Program) (n : Nat) (ops : Array Oper) (Lc Lc2 : List Blk) (Q : Kp) (p2 : List Nat) (m : Nat) (done : Array Bool) (t : Nat → Value) (L : List Blk) (R : List Sl) : List Nat → Prop
  | []=>True
  | j :: l=>U4e P n ops Lc Lc2 Q p2 m done t L R j∧WSteps P n ops Lc Lc2 Q p2 m done t L R l
theorem WSteps.mem {l:List Nat} (h:WSteps P n ops Lc Lc2 Q p2 m done t L R l) {j:Nat} (hj:j∈l):U4e P n ops Lc Lc2 Q p2 m done t L R j:=by
  induction l with
  | nil=>cases hj
  | cons x l ih=>
    rcases List.mem_cons.1 hj with rfl | hj
    · exact h.1
    · exact ih h.2 hj
theorem Jj (l:List Nat) (hT:Y8a tb n ops late p1 p2=true) (hL2:Lc2.Sublist Lc) (hok:Kbd ops p1 done l=true) (h:WSteps P n ops Lc Lc2 Q p2 m done t L R l):WZ P n ops Lc Lc2 Q p2 (m + 1) done t L R:=by
  intro c a w hcl hds hInv hfr hst hLc fuel hfu
  simp only [Y8a,Bool.and_eq_true] at hT
  simp only [Kbd,Bool.and_eq_true] at hok
  obtain ⟨hsel,_,hz⟩:=hT
  obtain ⟨hne,hre,hall⟩:=hok
  have hre:Region.ready .any ops done=l:=by simpa using hre
  obtain ⟨f,rfl⟩:∃f,fuel=f + 1:=⟨fuel - 1,by omega⟩
  refine U4b (by rw [hre];intro e;rw [e] at hne;cases hne) fun j hj=>?_
  have hj':j∈l:=by rw [← hre];exact hj
  obtain ⟨o,hio,hw,hd,Post,hg,hnext⟩:=h.mem hj'
  have hj1:j∈p1:=by simpa using List.all_eq_true.1 hall j hj'
  unfold wpOp
  simp only [hio]
  rw [hfr.wanted,hw,if_pos rfl]
  refine .inl ?_
  unfold Oper.wp
  rw [hfr.eval]
  refine hg c w hst a _ _ ?_
  intro v L' R' w' hp hst'
  obtain ⟨hLc',hR',hW⟩:=hnext v L' R' hp
  refine ⟨⟨(hst'.weak hLc' hR').weak hL2 (fun r hr=>⟨r,hr,.here⟩),.inr (hst'.weak hLc' hR')⟩,?_⟩
  refine J6c (S':=St c Lc R') (S2':=St c Lc2 R') (fun x hx=>hx.weak (List.Sublist.refl _) hR') (fun x hx=>hx.weak (List.Sublist.refl _) hR') _ _ _ _ ?_
  refine hW c _ w' (hcl.set hj) (by simp [hds]) (fun k hk2=>?_) (hfr.put hd v) hst' hLc' f za
  have hne:j≠k:=fun e=>Jpb hz hk2 (e ▸ hj1)
  rw [getD_set_ne true hne]
  exact hInv k hk2
theorem Jzf (os:List Oper) (hT:Y8a tb n ops late p1 p2=true) (hL2:Lc2.Sublist Lc) (hok:Yje ops done p2=true) (hos:p2.map (ops[·]?)=os.map some) (h:DJ P tb n ops Lc2 Q os t L R):WZ P n ops Lc Lc2 Q p2 m done t L R:=by
  intro c a w hcl hds hInv hfr hst hLc fuel hfu
  simp only [Y8a,Bool.and_eq_true] at hT
  simp only [Yje,Bool.and_eq_true] at hok
  obtain ⟨hsel,hal,hz⟩:=hT
  obtain ⟨hpl,hcov⟩:=hok
  refine Zac (tb:=tb) hsel hal hos hpl ⟨rfl,fun i d=>?_,(fun e he=>by cases he),(fun e he=>by cases he),List.nodup_nil,List.nodup_nil⟩ hds za (fun i hi hd=>?_) hfr hst (hL2.trans hLc) h
  · simp
  · have := List.all_eq_true.1 hcov i (List.mem_range.2 hi)
    rw [hd] at this
    simpa using this
end
theorem Ka {P : Program} {tb : Tabs P} {n m : Nat} {opl : List Oper} {late p1 p2 : List Nat} {Lc Lc2 : List Blk} {Q : Kp} {done : Array Bool} {t : Nat → Value} {L : List Blk} {R : List Sl} (hT : Y8a tb n opl.toArray late p1 p2 = true) (hL2 : Lc2.Sublist Lc) (hok : Yje opl.toArray done p2 = true) (hp2 : p2.all (fun k => Nat.blt k opl.length) = true)
    (h:DJ P tb n opl.toArray Lc2 Q (Jpa opl p2) t L R):WZ P n opl.toArray Lc Lc2 Q p2 m done t L R:=
  Jzf (Jpa opl p2) hT hL2 hok (Jjb opl p2 fun i hi=>by simpa using List.all_eq_true.1 hp2 i hi) h
theorem Ypc {P : Program} (tb : Tabs P) {n id : Nat} {ops : List Oper} {t : Nat → Value} {L : List Blk} {R : List Sl} {Q : Kp} (late p1 p2 : List Nat) (Lc Lc2 : List Blk) (m : Nat) (hm : P.follows .mixedOrders = true) (hT : Y8a tb n ops.toArray late p1 p2 = true) (hmm : Nat.ble (m + p2.length) ops.length = true)
    (hp2:p2.all (fun k=>Nat.blt k ops.length)=true) (hLc:Lc.Sublist L) (h:Y8a tb n ops.toArray late p1 p2=true→WZ P n ops.toArray Lc Lc2 Q p2 m (Array.replicate ops.length false) t L R):CJ P n (.region id ops.toArray true) t L R Q:=by
  intro c a w hf hs
  refine wp_region_any hm (Vza (S:=St c Lc R) (S2:=St c Lc2 R) (p2:=p2) _ _ _ _ ?_)
  have e:ops.toArray.size=ops.length:=by simp
  have hcl:=Closed.zero (ops:=ops.toArray)
  rw [e] at hcl
  refine h hT c a _ hcl zo (fun k hk=>?_) hf (St.drew hs) hLc _ ?_
  · have := List.all_eq_true.1 hp2 k hk
    simp at this
    simp [this]
  · have := Nat.le_of_ble_eq_true hmm
    simpa using this
section
variable {P:Program} {tb:Tabs P} {n m:Nat} {ops:Array Oper} {late p1 p2:List Nat} {Lc Lc2:List Blk} {Q:Kp} {done:Array Bool} {t:Nat→Value} {L:List Blk} {R:List Sl} {op:Op} {ty:TypeId} {pos:String} {after:Array Edge} {d:Tmp} {v:Value} {g:Option (Nat×Bool)}
theorem U6c (i : Nat) (hT : Y8a tb n ops late p1 p2 = true) (hL2 : Lc2.Sublist Lc) (hok : Zld ops p1 done i = true) (hio : ops[i]? = some ⟨some d, op, ty, pos, after, g⟩) (hk : Uu op = 0) (hw : V1 ops t g = true) (hd : Nat.blt d n = true) (hl : late.contains d = false)
    (hv:YV P ⟨some d,op,ty,pos,after,g⟩ (ev t) Lc R v) (h:WZ P n ops Lc Lc2 Q p2 m (done.setIfInBounds i true) (upd t d v) L R):WZ P n ops Lc Lc2 Q p2 (m + 1) done t L R:=
  U3e hT hL2 hok hio hk hw hd (by simp only [Voe,hl,cond_false];exact hv) h
theorem Kt {j : Nat} {Post : Yn} (hio : ops[j]? = some ⟨some d, op, ty, pos, after, g⟩) (hg : Gives P ⟨some d, op, ty, pos, after, g⟩ (ev t) L R Post) (hw : V1 ops t g = true) (hd : Nat.blt d n = true)
    (h:∀v L' R',Post v L' R'→Lc.Sublist L'∧(∀r∈R,InR r R')∧WZ P n ops Lc Lc2 Q p2 m (done.setIfInBounds j true) (upd t d v) L' R'):U4e P n ops Lc Lc2 Q p2 m done t L R j:=
  ⟨_,hio,hw,hd,Post,hg,h⟩
theorem Jq {j:Nat} {l:List Nat} (h:U4e P n ops Lc Lc2 Q p2 m done t L R j) (k:WSteps P n ops Lc Lc2 Q p2 m done t L R l):WSteps P n ops Lc Lc2 Q p2 m done t L R (j :: l):=⟨h,k⟩
theorem Ved:WSteps P n ops Lc Lc2 Q p2 m done t L R []:=trivial
end
end Go.Aw
end
section
namespace Go.Aw
open Go
section
variable {P:Program} {ρ:Operand→Value} {L L':List Blk} {R:List Sl} {dst:Option Tmp} {ty:TypeId} {pos:String} {after:Array Edge} {guard:Option (Nat×Bool)} {T k e:TypeId} {z:Value} {x y u:Operand}
end
section
variable {b:Nat} {l l':List (Int×Value)} {L L':List Blk}
end
section
open ChangeMaps
variable {P:Program} {ρ:Operand→Value} {L L':List Blk} {R:List Sl} {dst:Option Tmp} {ty:TypeId} {pos:String} {after:Array Edge} {guard:Option (Nat×Bool)} {T k e:TypeId} {z:Value} {x y u:Operand}
end
end Go.Aw
end
