/- Seat 7: MatchLaws' rounds. Conditions: none but those that each theorem names. -/
import Derived.Test.YtlnijcffanjieaaGreatDoorVmQ
namespace Go.Proofs.YtlnijcffanjieaaGreatDoor
set_option maxRecDepth 100000
set_option maxHeartbeats 8000000
open Go Go.Vm Go.Vm.Sx
theorem lent4:kH Tryz.prog Tryz.f4.params.toList=some []:=by kernel_rfl
theorem zpY {x:V}:wY Tryz.prog [47] [.d x] 0:=by
 refine ⟨fun e=>?_,trivial⟩
 rw [Tryz.underlying47];simp
theorem zet (e:E):∃ x0 x1 x2 x3 x4 x5 x6 x7 x8 x9,enc e=.agg [x0,x1,x2,x3,x4,x5,x6,x7,x8,x9]∧kOk (.int .i64) x0=true∧clr x0=x0∧kOk (.int .i64) x1=true∧clr x1=x1∧kOk (.int .u64) x2=true∧clr x2=x2∧kOk (.int .u64) x3=true∧clr x3=x3∧kOk (.int .u64) x4=true∧clr x4=x4∧kOk (.int .u64) x5=true∧clr x5=x5∧kOk .str x6=true∧clr x6=x6∧kOk (.int .i64) x7=true∧clr x7=x7∧kOk (.int .i64) x8=true∧clr x8=x8∧kOk (.sl 10) x9=true∧clr x9=x9:=by
 obtain ⟨op,pl,s0,s1,s2,s3,tx,mn,mx,nl,args⟩:=e
 exact ⟨_,_,_,_,_,_,_,_,_,_,rfl,by simp [kOk],rfl,by simp [kOk],rfl,by simp [kOk],rfl,by simp [kOk],rfl,by simp [kOk],rfl,by simp [kOk],rfl,by simp [kOk],rfl,by simp [kOk],rfl,by simp [kOk],rfl,yf ..,q5 ..⟩
theorem x10 {x:E} {c:V} (h:enc x=c) (hw:Wf x):phE Tryz.prog gl1 10 [.d c,.d (.int .i64 0)] []=some (.int .i64 (sizeM x 0),[]):=by subst h;exact jU (zpj GL1 x hw 0)
theorem x11 {x:E} {c:V} (h:enc x=c) (hw:Wf x):phE Tryz.prog gl1 11 [.d c] []=some (.bool (zaQ x),[]):=by subst h;exact jU (zpO GL1 x hw)
theorem zmG {ρ σ:List V} {i:Nat} (h:i<ρ.length):at' (ρ++σ) i=at' ρ i:=by
 induction ρ generalizing i with
 | nil=>simp at h
 | cons a ρ ih=>cases i with
  | zero=>simp only [List.cons_append,qK]
  | succ i=>simp only [List.cons_append,qL];exact ih (by simpa using h)
theorem zmH {ρ σ:List V} (k:Nat):at' (ρ++σ) (ρ.length+k)=at' σ k:=by
 induction ρ with
 | nil=>simp
 | cons a ρ ih=>rw [List.length_cons,show ρ.length+1+k=(ρ.length+k)+1 by omega,List.cons_append,qL];exact ih
theorem lp4 (A B C:E) (hp:∀ (k:Nat) (l r:E),(lftE A B C)[k]?=some l→(rgtE A B C)[k]?=some r→Pair l r) (N:Nat) (nl:Bool) (l:List Tx) (hN:l.length+42≤N) (hl:l.length≤maxLen) (htx:∀ p∈l,zhR p) (ρ:List V) (hlen:ρ.length=409) (h31:at' ρ 31=zeG nl l) (hX:evL ρ (.snoc (.snoc (.snoc (.snoc (.snoc (.snoc (.snoc (.snoc (.snoc (.snoc .nil 210) 211) 212) 213) 214) 215) 216) 217) 218) 219)=(lftE A B C).map enc) (hY:evL ρ (.snoc (.snoc (.snoc (.snoc (.snoc (.snoc (.snoc (.snoc (.snoc (.snoc .nil 399) 400) 401) 402) 403) 404) 405) 406) 407) 408)=(rgtE A B C).map enc):zjo (phE Tryz.prog gl1) gl1.g N lp4_2 ρ [.int .i64 0]=some (0,[.bool true]):=by
 have hgl:=GL1
 have hml:=maxLen_le
 have hmg:41≤maxLen:=by decide
 have c12:=jU ev12
 have lo:∀ i,i<409→∀ σ,at' (ρ++σ) i=at' ρ i:=fun i h σ=>zmG (by omega)
 have hi:∀ k σ,at' (ρ++σ) (409+k)=at' σ k:=fun k σ=>by rw [← hlen];exact zmH k
 have f31:∀ σ,at' (ρ++σ) 31=zeG nl l:=fun σ=>(lo 31 (by decide) σ).trans h31
 obtain ⟨x0,hx0⟩:∃ x,x=at' ρ 210:=⟨_,rfl⟩
 have fx0:∀ σ,at' (ρ++σ) 210=x0:=fun σ=>(lo 210 (by decide) σ).trans hx0.symm
 obtain ⟨y0,hy0⟩:∃ y,y=at' ρ 399:=⟨_,rfl⟩
 have fy0:∀ σ,at' (ρ++σ) 399=y0:=fun σ=>(lo 399 (by decide) σ).trans hy0.symm
 obtain ⟨x1,hx1⟩:∃ x,x=at' ρ 211:=⟨_,rfl⟩
 have fx1:∀ σ,at' (ρ++σ) 211=x1:=fun σ=>(lo 211 (by decide) σ).trans hx1.symm
 obtain ⟨y1,hy1⟩:∃ y,y=at' ρ 400:=⟨_,rfl⟩
 have fy1:∀ σ,at' (ρ++σ) 400=y1:=fun σ=>(lo 400 (by decide) σ).trans hy1.symm
 obtain ⟨x2,hx2⟩:∃ x,x=at' ρ 212:=⟨_,rfl⟩
 have fx2:∀ σ,at' (ρ++σ) 212=x2:=fun σ=>(lo 212 (by decide) σ).trans hx2.symm
 obtain ⟨y2,hy2⟩:∃ y,y=at' ρ 401:=⟨_,rfl⟩
 have fy2:∀ σ,at' (ρ++σ) 401=y2:=fun σ=>(lo 401 (by decide) σ).trans hy2.symm
 obtain ⟨x3,hx3⟩:∃ x,x=at' ρ 213:=⟨_,rfl⟩
 have fx3:∀ σ,at' (ρ++σ) 213=x3:=fun σ=>(lo 213 (by decide) σ).trans hx3.symm
 obtain ⟨y3,hy3⟩:∃ y,y=at' ρ 402:=⟨_,rfl⟩
 have fy3:∀ σ,at' (ρ++σ) 402=y3:=fun σ=>(lo 402 (by decide) σ).trans hy3.symm
 obtain ⟨x4,hx4⟩:∃ x,x=at' ρ 214:=⟨_,rfl⟩
 have fx4:∀ σ,at' (ρ++σ) 214=x4:=fun σ=>(lo 214 (by decide) σ).trans hx4.symm
 obtain ⟨y4,hy4⟩:∃ y,y=at' ρ 403:=⟨_,rfl⟩
 have fy4:∀ σ,at' (ρ++σ) 403=y4:=fun σ=>(lo 403 (by decide) σ).trans hy4.symm
 obtain ⟨x5,hx5⟩:∃ x,x=at' ρ 215:=⟨_,rfl⟩
 have fx5:∀ σ,at' (ρ++σ) 215=x5:=fun σ=>(lo 215 (by decide) σ).trans hx5.symm
 obtain ⟨y5,hy5⟩:∃ y,y=at' ρ 404:=⟨_,rfl⟩
 have fy5:∀ σ,at' (ρ++σ) 404=y5:=fun σ=>(lo 404 (by decide) σ).trans hy5.symm
 obtain ⟨x6,hx6⟩:∃ x,x=at' ρ 216:=⟨_,rfl⟩
 have fx6:∀ σ,at' (ρ++σ) 216=x6:=fun σ=>(lo 216 (by decide) σ).trans hx6.symm
 obtain ⟨y6,hy6⟩:∃ y,y=at' ρ 405:=⟨_,rfl⟩
 have fy6:∀ σ,at' (ρ++σ) 405=y6:=fun σ=>(lo 405 (by decide) σ).trans hy6.symm
 obtain ⟨x7,hx7⟩:∃ x,x=at' ρ 217:=⟨_,rfl⟩
 have fx7:∀ σ,at' (ρ++σ) 217=x7:=fun σ=>(lo 217 (by decide) σ).trans hx7.symm
 obtain ⟨y7,hy7⟩:∃ y,y=at' ρ 406:=⟨_,rfl⟩
 have fy7:∀ σ,at' (ρ++σ) 406=y7:=fun σ=>(lo 406 (by decide) σ).trans hy7.symm
 obtain ⟨x8,hx8⟩:∃ x,x=at' ρ 218:=⟨_,rfl⟩
 have fx8:∀ σ,at' (ρ++σ) 218=x8:=fun σ=>(lo 218 (by decide) σ).trans hx8.symm
 obtain ⟨y8,hy8⟩:∃ y,y=at' ρ 407:=⟨_,rfl⟩
 have fy8:∀ σ,at' (ρ++σ) 407=y8:=fun σ=>(lo 407 (by decide) σ).trans hy8.symm
 obtain ⟨x9,hx9⟩:∃ x,x=at' ρ 219:=⟨_,rfl⟩
 have fx9:∀ σ,at' (ρ++σ) 219=x9:=fun σ=>(lo 219 (by decide) σ).trans hx9.symm
 obtain ⟨y9,hy9⟩:∃ y,y=at' ρ 408:=⟨_,rfl⟩
 have fy9:∀ σ,at' (ρ++σ) 408=y9:=fun σ=>(lo 408 (by decide) σ).trans hy9.symm
 have hX':[x0,x1,x2,x3,x4,x5,x6,x7,x8,x9]=(lftE A B C).map enc:=by
  rw [← hX,hx0,hx1,hx2,hx3,hx4,hx5,hx6,hx7,hx8,hx9]
  simp only [evL,List.nil_append,List.cons_append]
 have hY':[y0,y1,y2,y3,y4,y5,y6,y7,y8,y9]=(rgtE A B C).map enc:=by
  rw [← hY,hy0,hy1,hy2,hy3,hy4,hy5,hy6,hy7,hy8,hy9]
  simp only [evL,List.nil_append,List.cons_append]
 have o409:∀ σ,at' (ρ++σ) 409=at' σ 0:=fun σ=>hi 0 σ
 have o410:∀ σ,at' (ρ++σ) 410=at' σ 1:=fun σ=>hi 1 σ
 have o411:∀ σ,at' (ρ++σ) 411=at' σ 2:=fun σ=>hi 2 σ
 have o412:∀ σ,at' (ρ++σ) 412=at' σ 3:=fun σ=>hi 3 σ
 have o413:∀ σ,at' (ρ++σ) 413=at' σ 4:=fun σ=>hi 4 σ
 have o414:∀ σ,at' (ρ++σ) 414=at' σ 5:=fun σ=>hi 5 σ
 have o415:∀ σ,at' (ρ++σ) 415=at' σ 6:=fun σ=>hi 6 σ
 have o416:∀ σ,at' (ρ++σ) 416=at' σ 7:=fun σ=>hi 7 σ
 have o417:∀ σ,at' (ρ++σ) 417=at' σ 8:=fun σ=>hi 8 σ
 have o418:∀ σ,at' (ρ++σ) 418=at' σ 9:=fun σ=>hi 9 σ
 have o419:∀ σ,at' (ρ++σ) 419=at' σ 10:=fun σ=>hi 10 σ
 have o420:∀ σ,at' (ρ++σ) 420=at' σ 11:=fun σ=>hi 11 σ
 have o421:∀ σ,at' (ρ++σ) 421=at' σ 12:=fun σ=>hi 12 σ
 have o422:∀ σ,at' (ρ++σ) 422=at' σ 13:=fun σ=>hi 13 σ
 have o423:∀ σ,at' (ρ++σ) 423=at' σ 14:=fun σ=>hi 14 σ
 have o424:∀ σ,at' (ρ++σ) 424=at' σ 15:=fun σ=>hi 15 σ
 have o425:∀ σ,at' (ρ++σ) 425=at' σ 16:=fun σ=>hi 16 σ
 have o426:∀ σ,at' (ρ++σ) 426=at' σ 17:=fun σ=>hi 17 σ
 have o427:∀ σ,at' (ρ++σ) 427=at' σ 18:=fun σ=>hi 18 σ
 have o428:∀ σ,at' (ρ++σ) 428=at' σ 19:=fun σ=>hi 19 σ
 have o429:∀ σ,at' (ρ++σ) 429=at' σ 20:=fun σ=>hi 20 σ
 have o430:∀ σ,at' (ρ++σ) 430=at' σ 21:=fun σ=>hi 21 σ
 have o431:∀ σ,at' (ρ++σ) 431=at' σ 22:=fun σ=>hi 22 σ
 have o432:∀ σ,at' (ρ++σ) 432=at' σ 23:=fun σ=>hi 23 σ
 have o433:∀ σ,at' (ρ++σ) 433=at' σ 24:=fun σ=>hi 24 σ
 have o434:∀ σ,at' (ρ++σ) 434=at' σ 25:=fun σ=>hi 25 σ
 have o435:∀ σ,at' (ρ++σ) 435=at' σ 26:=fun σ=>hi 26 σ
 have o436:∀ σ,at' (ρ++σ) 436=at' σ 27:=fun σ=>hi 27 σ
 have o437:∀ σ,at' (ρ++σ) 437=at' σ 28:=fun σ=>hi 28 σ
 have o438:∀ σ,at' (ρ++σ) 438=at' σ 29:=fun σ=>hi 29 σ
 have o439:∀ σ,at' (ρ++σ) 439=at' σ 30:=fun σ=>hi 30 σ
 have o440:∀ σ,at' (ρ++σ) 440=at' σ 31:=fun σ=>hi 31 σ
 have o441:∀ σ,at' (ρ++σ) 441=at' σ 32:=fun σ=>hi 32 σ
 have o442:∀ σ,at' (ρ++σ) 442=at' σ 33:=fun σ=>hi 33 σ
 have o443:∀ σ,at' (ρ++σ) 443=at' σ 34:=fun σ=>hi 34 σ
 have o444:∀ σ,at' (ρ++σ) 444=at' σ 35:=fun σ=>hi 35 σ
 have o445:∀ σ,at' (ρ++σ) 445=at' σ 36:=fun σ=>hi 36 σ
 have o446:∀ σ,at' (ρ++σ) 446=at' σ 37:=fun σ=>hi 37 σ
 have o447:∀ σ,at' (ρ++σ) 447=at' σ 38:=fun σ=>hi 38 σ
 have o448:∀ σ,at' (ρ++σ) 448=at' σ 39:=fun σ=>hi 39 σ
 have o449:∀ σ,at' (ρ++σ) 449=at' σ 40:=fun σ=>hi 40 σ
 have o450:∀ σ,at' (ρ++σ) 450=at' σ 41:=fun σ=>hi 41 σ
 have o451:∀ σ,at' (ρ++σ) 451=at' σ 42:=fun σ=>hi 42 σ
 have o452:∀ σ,at' (ρ++σ) 452=at' σ 43:=fun σ=>hi 43 σ
 have o453:∀ σ,at' (ρ++σ) 453=at' σ 44:=fun σ=>hi 44 σ
 have o454:∀ σ,at' (ρ++σ) 454=at' σ 45:=fun σ=>hi 45 σ
 have o455:∀ σ,at' (ρ++σ) 455=at' σ 46:=fun σ=>hi 46 σ
 have o456:∀ σ,at' (ρ++σ) 456=at' σ 47:=fun σ=>hi 47 σ
 have o457:∀ σ,at' (ρ++σ) 457=at' σ 48:=fun σ=>hi 48 σ
 have o458:∀ σ,at' (ρ++σ) 458=at' σ 49:=fun σ=>hi 49 σ
 have o459:∀ σ,at' (ρ++σ) 459=at' σ 50:=fun σ=>hi 50 σ
 have o460:∀ σ,at' (ρ++σ) 460=at' σ 51:=fun σ=>hi 51 σ
 have o461:∀ σ,at' (ρ++σ) 461=at' σ 52:=fun σ=>hi 52 σ
 have o462:∀ σ,at' (ρ++σ) 462=at' σ 53:=fun σ=>hi 53 σ
 have o463:∀ σ,at' (ρ++σ) 463=at' σ 54:=fun σ=>hi 54 σ
 have o464:∀ σ,at' (ρ++σ) 464=at' σ 55:=fun σ=>hi 55 σ
 have o465:∀ σ,at' (ρ++σ) 465=at' σ 56:=fun σ=>hi 56 σ
 have o466:∀ σ,at' (ρ++σ) 466=at' σ 57:=fun σ=>hi 57 σ
 have o467:∀ σ,at' (ρ++σ) 467=at' σ 58:=fun σ=>hi 58 σ
 have o468:∀ σ,at' (ρ++σ) 468=at' σ 59:=fun σ=>hi 59 σ
 have o469:∀ σ,at' (ρ++σ) 469=at' σ 60:=fun σ=>hi 60 σ
 have o470:∀ σ,at' (ρ++σ) 470=at' σ 61:=fun σ=>hi 61 σ
 have o471:∀ σ,at' (ρ++σ) 471=at' σ 62:=fun σ=>hi 62 σ
 have o472:∀ σ,at' (ρ++σ) 472=at' σ 63:=fun σ=>hi 63 σ
 have o473:∀ σ,at' (ρ++σ) 473=at' σ 64:=fun σ=>hi 64 σ
 have o474:∀ σ,at' (ρ++σ) 474=at' σ 65:=fun σ=>hi 65 σ
 have o475:∀ σ,at' (ρ++σ) 475=at' σ 66:=fun σ=>hi 66 σ
 have o476:∀ σ,at' (ρ++σ) 476=at' σ 67:=fun σ=>hi 67 σ
 have o477:∀ σ,at' (ρ++σ) 477=at' σ 68:=fun σ=>hi 68 σ
 refine zhu (st:=fun i=>[.int .i64 (i:Int)]) (m:=min l.length 3) (fun i hi=>?_) ?_ (by omega)
 ·have hil:i<l.length:=by omega
  obtain ⟨p,hpp⟩:∃ p,l[i]?=some p:=⟨l[i],by simp [hil]⟩
  have hpt:=htx p (List.mem_of_getElem? hpp)
  have h1:=zjn hil
  have h1b:ltz (i:Int) 3=true:=ltz_t (by omega)
  have h2:=znM hpp
  have h4:=zmf (i:=i) (by omega)
  have c13:=jU (zqy hgl p.1 p.2)
  obtain ⟨t,ht⟩:∃ t,t=zeo p.2:=⟨_,rfl⟩
  obtain ⟨nb,hnb⟩:∃ nb,nb=(p.1 && p.2.isEmpty):=⟨_,rfl⟩
  rw [← ht,← hnb] at c13
  have htb:∀ b∈t,b<256:=by rw [ht];exact znO hpt.2
  simp only [lp4_2]
  by_cases hlen:40<t.length
  ·have h5:ltz 40 (t.length:Int)=true:=ltz_t (by omega)
   simp only [kK,zY,yz,qn,jf,qK,qL,ks_nil,Bool.and_self,q8,zcW,zH,zM,evB,evI,evL,zp,evC,zy,kz,evA,qx,z0,jV,jW,biI,zcX,joinL,sizesOk,List.append_assoc,f31,o409,o410,o411,ziz,zaq,h1,h1b,h2,h4,h5,c13,zhO,jM,List.length_map,Int.toNat_natCast]
  ·have h5:ltz 40 (t.length:Int)=false:=zbT (by omega)
   simp only [kK,kE,yz,qn,jf,zaI,qK,qL,ks_nil,Bool.and_self,q8,zcW,zH,zM,evB,evI,evL,zp,evC,zy,kz,evA,qx,z0,jV,jW,zcX,joinL,sizesOk,List.append_assoc,f31,o409,o410,o411,ziz,zaq,h1,h1b,h2,h5,c13,zhO,jM,List.length_map,Int.toNat_natCast]
   refine zhu (st:=fun k=>[.int .i64 (k:Int)]) (m:=10) (fun k hk=>?_) ?_ (by omega)
   ·obtain ⟨le,hle⟩:∃ le,(lftE A B C)[k]?=some le:=⟨(lftE A B C)[k]'(by simp [lftE];omega),by simp⟩
    obtain ⟨re,hre⟩:∃ re,(rgtE A B C)[k]?=some re:=⟨(rgtE A B C)[k]'(by simp [rgtE];omega),by simp⟩
    have hpr:=hp k le re hle hre
    have j1:ltz (k:Int) ((10:Nat):Int)=true:=ltz_t (by omega)
    have jx:nth [x0,x1,x2,x3,x4,x5,x6,x7,x8,x9] k=some (enc le):=by rw [hX',zl,List.getElem?_map,hle];rfl
    have jy:nth [y0,y1,y2,y3,y4,y5,y6,y7,y8,y9] k=some (enc re):=by rw [hY',zl,List.getElem?_map,hre];rfl
    have k4:=zmf (i:=k) (by omega)
    have ol:okP le t=true:=by simp only [okP,zmB hpr.lf.cor hpr.ln,Bool.true_and,decide_eq_true_eq];omega
    have or':okP re t=true:=by simp only [okP,zmB hpr.rf.cor hpr.rn,Bool.true_and,decide_eq_true_eq];omega
    obtain ⟨s1,s2⟩:=zmD hpr.lf.cor hpr.lf.rg hpr.rf.cor hpr.rf.rg hpr.same t
    have d14:=jU (zpQ (nl:=nb) ⟨hpr.lf.wf,hpr.lf.can⟩ hpr.lf.rg htb)
    have e14:=jU (zpQ (nl:=nb) ⟨hpr.rf.wf,hpr.rf.can⟩ hpr.rf.rg htb)
    have d16:=jU (zpR (nl:=nb) ⟨hpr.lf.wf,hpr.lf.can⟩ hpr.lf.rg htb)
    have e16:=jU (zpR (nl:=nb) ⟨hpr.rf.wf,hpr.rf.can⟩ hpr.rf.rg htb)
    rw [zjI ol] at d14
    rw [zjI or',← s1] at e14
    rw [zjJ ol] at d16
    rw [zjJ or',← s2] at e16
    have hg1:=zmA le t
    have d21:=jU (zqz hgl (xm le t) (xm le t) (by omega))
    rw [decide_eq_true (rfl:xm le t=xm le t)] at d21
    have hkr:kOk .raw (stV (zhM le t))=true:=by rfl
    obtain ⟨u0,u1,u2,u3,u4,u5,u6,u7,u8,u9,eU,uk0,uc0,uk1,uc1,uk2,uc2,uk3,uc3,uk4,uc4,uk5,uc5,uk6,uc6,uk7,uc7,uk8,uc8,uk9,uc9⟩:=zet le
    obtain ⟨v0,v1,v2,v3,v4,v5,v6,v7,v8,v9,eW,vk0,vc0,vk1,vc1,vk2,vc2,vk3,vc3,vk4,vc4,vk5,vc5,vk6,vc6,vk7,vc7,vk8,vc8,vk9,vc9⟩:=zet re
    rw [eU] at jx d14 d16
    rw [eW] at jy e14 e16
    simp only [stV] at d16 e16 hkr
    simp only [lp4_1]
    simp only [kK,yz,ev_opn,ev_unt,jf,qK,qL,qd,kN,ks_nil,Bool.and_self,q8,zcW,zH,zM,evB,evI,evL,zp,evC,zy,kz,evA,qx,z0,jV,zcX,joinL,sizesOk,List.length_cons,List.length_nil,List.append_assoc,Nat.zero_add,Nat.reduceAdd,fx0,fx1,fx2,fx3,fx4,fx5,fx6,fx7,fx8,fx9,fy0,fy1,fy2,fy3,fy4,fy5,fy6,fy7,fy8,fy9,o411,o412,o413,o414,o415,o416,o417,o418,o419,o420,o421,o422,o423,o424,o427,o428,o429,o430,o431,o432,o433,o434,o435,o436,o437,o438,o441,o442,o443,o444,o445,o446,o447,o448,o449,o450,o451,o452,o453,o459,o460,o461,o462,o463,o464,o465,o466,o467,o468,o469,o470,o471,j1,jx,jy,d14,e14,d16,e16,hkr,zmw,kIfc,jM,uk0,uk1,uk2,uk3,uk4,uk5,uk6,uk7,uk8,uk9,vk0,vk1,vk2,vk3,vk4,vk5,vk6,vk7,vk8,vk9,Int.toNat_natCast]
    rw [kK (by simp only [evB,o426,o440,o454,o472,qK,qL];rfl)]
    simp only [kE,zY,qn,jf,qK,qL,yy,ks_nil,Bool.and_self,Bool.or_false,Bool.not_true,q8,zH,zM,evB,evI,zp,evC,zy,kz,evA,qx,z0,ww,jv,biI,joinL,sizesOk,List.append_assoc,o412,o425,o439,o455,o456,o457,o458,o473,o474,o475,o476,o477,d21,znD,k4,beq_self_eq_true]
   ·have j1:ltz ((10:Nat):Int) ((10:Nat):Int)=false:=by decide
    simp only [lp4_1]
    simp only [kE,zY,ev_esc,qK,qL,zH,zM,evB,evI,evL,zp,evC,z0,jV,biI,List.length_cons,List.length_nil,List.append_assoc,Nat.zero_add,Nat.reduceAdd,fx0,fx1,fx2,fx3,fx4,fx5,fx6,fx7,fx8,fx9,o409,o412,j1,h4]
 ·have h1:(ltz ((min l.length 3:Nat):Int) (l.length:Int) && ltz ((min l.length 3:Nat):Int) 3)=false:=by
   rcases Nat.lt_or_ge l.length 3 with h|h
   ·rw [show ltz ((min l.length 3:Nat):Int) (l.length:Int)=false from zbT (by omega)];rfl
   ·rw [show ltz ((min l.length 3:Nat):Int) 3=false from zbT (by omega),Bool.and_false]
  simp only [lp4_2]
  simp only [kE,zY,ev_esc,zX,qn,jf,qK,qL,yy,ks_nil,Bool.and_self,q8,zH,zM,evB,evI,evL,zp,evC,zy,kz,qx,jt,z0,jV,joinL,sizesOk,List.append_assoc,Nat.zero_add,f31,o409,o410,o411,ziz,h1,c12,List.length_map]
end Go.Proofs.YtlnijcffanjieaaGreatDoor
