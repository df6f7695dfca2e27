import Derived.Test.YtnboooapeopjoaaGreatDoorJ10
open Go.Proofs.Tryz renaming prog→ab
set_option linter.all false
section
namespace Go.Proofs.YtnboooapeopjoaaGreatDoor
open Go.Eng
variable [a6]
set_option maxHeartbeats 4000000
set_option maxRecDepth 100000
abbrev An:V:=.slice [.agg [str ⟨#[97,47,118,49]⟩,str ⟨#[115]⟩]]
abbrev dV:V:=.agg [num 1,str ⟨#[118]⟩,bl false,bl false,str ⟨#[]⟩,.slice [],num 0,str ⟨#[]⟩,str ⟨#[]⟩,.slice [],.slice [],num 0,str ⟨#[]⟩,str ⟨#[]⟩,.slice [],.slice [],num 2,str ⟨#[]⟩,str ⟨#[]⟩,.slice [],.slice [],num 0,str ⟨#[]⟩,str ⟨#[]⟩,str ⟨#[]⟩,num 1,.slice [],.slice [],.slice [],str ⟨#[]⟩,str ⟨#[]⟩]
abbrev UU:V:=.agg [num 3,str ⟨#[]⟩,str ⟨#[118]⟩,str ⟨#[]⟩,num 0,.slice [],.slice [],.slice []]
abbrev UW:V:=.slice [.agg [num 0,str ⟨#[]⟩,str ⟨#[]⟩,str ⟨#[]⟩,num 2,.slice [],.slice [],.slice []],.agg [num 16,str ⟨#[]⟩,str ⟨#[43]⟩,str ⟨#[]⟩,num 0,.slice [],.slice [],.slice [UU,UU]]]
abbrev eO:V:=.agg [num 1,str ⟨#[119]⟩,bl false,bl false,str ⟨#[]⟩,.slice [],num 0,str ⟨#[]⟩,str ⟨#[]⟩,.slice [],.slice [],num 0,str ⟨#[]⟩,str ⟨#[]⟩,.slice [],.slice [],num 2,str ⟨#[]⟩,str ⟨#[]⟩,.slice [],.slice [],num 10,str ⟨#[]⟩,str ⟨#[118]⟩,str ⟨#[]⟩,num 0,.slice [],.slice [],UW,str ⟨#[]⟩,str ⟨#[]⟩]
abbrev n7:V:=.agg [num 1,str ⟨#[120]⟩,bl false,bl false,str ⟨#[]⟩,.slice [],num 0,str ⟨#[]⟩,str ⟨#[]⟩,.slice [],.slice [],num 0,str ⟨#[]⟩,str ⟨#[]⟩,.slice [],.slice [],num 2,str ⟨#[]⟩,str ⟨#[]⟩,.slice [],.slice [],num 4,str ⟨#[109,47,118,49]⟩,str ⟨#[118]⟩,str ⟨#[]⟩,num 0,.slice [],.slice [],.slice [],str ⟨#[]⟩,str ⟨#[]⟩]
abbrev JI:V:=.slice [.agg [str ⟨#[65]⟩,num 0,num 0,str ⟨#[]⟩,str ⟨#[]⟩,.slice [],.slice []]]
abbrev Bz:V:=.slice [.agg [num 9,str ⟨#[]⟩,str ⟨#[65]⟩,.slice [],.slice []]]
abbrev sx:V:=.agg [num 0,str ⟨#[80]⟩,bl false,bl false,str ⟨#[]⟩,JI,num 5,str ⟨#[]⟩,str ⟨#[]⟩,Bz,.slice [],num 5,str ⟨#[]⟩,str ⟨#[]⟩,Bz,.slice [],num 5,str ⟨#[]⟩,str ⟨#[]⟩,Bz,.slice [],num 0,str ⟨#[]⟩,str ⟨#[]⟩,str ⟨#[]⟩,num 0,.slice [],.slice [],.slice [],str ⟨#[]⟩,str ⟨#[]⟩]
abbrev F9:V:=.agg [num 1,str ⟨#[121]⟩,bl false,bl false,str ⟨#[]⟩,.slice [],num 0,str ⟨#[]⟩,str ⟨#[]⟩,.slice [],.slice [],num 0,str ⟨#[]⟩,str ⟨#[]⟩,.slice [],.slice [],num 10,str ⟨#[97,47,118,49]⟩,str ⟨#[78]⟩,.slice [],.slice [],num 4,str ⟨#[97,47,118,49]⟩,str ⟨#[102]⟩,str ⟨#[]⟩,num 0,.slice [],.slice [],.slice [],str ⟨#[]⟩,str ⟨#[]⟩]
abbrev tj:V:=.slice [dV,eO,n7,sx,F9]
abbrev cH:ba:=.box [str ⟨#[109,47,118,49]⟩,An,tj]
abbrev Dl:ba:=.map [(.string ⟨#[97,47,118,49]⟩,0,bl true)] 1
abbrev jQ:ba:=.box [str ⟨#[97,47,118,49]⟩,str ⟨#[115]⟩]
abbrev cT:ba:=.box [num 1,str ⟨#[118]⟩,bl false,bl false,str ⟨#[]⟩,.slice [],num 0,str ⟨#[]⟩,str ⟨#[]⟩,.slice [],.slice [],num 0,str ⟨#[]⟩,str ⟨#[]⟩,.slice [],.slice [],num 2,str ⟨#[]⟩,str ⟨#[]⟩,.slice [],.slice [],num 0,str ⟨#[]⟩,str ⟨#[]⟩,str ⟨#[]⟩,num 1,.slice [],.slice [],.slice [],str ⟨#[]⟩,str ⟨#[]⟩]
abbrev P5:List ba:=[cH,Dl,.box [.mp 1],jQ,cT,cT,.box [.cC (.func 118) [] [.ptr 2 0]],.box [.cC (.func 119) [] [.ptr 2 0]],.box [bl true],.rows 0 31 [dV],.box [str ⟨#[]⟩,.sc (.slice none 0 0),.ms 9 0 0 1,num 0,.sc (.slice none 0 0),num 0,.cC (.func 140) [] [.ptr 8 0,.ptr 6 0],.cC (.func 141) [] [.ptr 8 0,.ptr 7 0],.sc (.func (.func 139) #[] #[])]]
abbrev P6:List ba:=[cH,Dl,.box [.mp 1],jQ,cT]
abbrev dc:ba:=.box [num 1,str ⟨#[119]⟩,bl false,bl false,str ⟨#[]⟩,.slice [],num 0,str ⟨#[]⟩,str ⟨#[]⟩,.slice [],.slice [],num 0,str ⟨#[]⟩,str ⟨#[]⟩,.slice [],.slice [],num 2,str ⟨#[]⟩,str ⟨#[]⟩,.slice [],.slice [],num 10,str ⟨#[]⟩,str ⟨#[118]⟩,str ⟨#[]⟩,num 0,.slice [],.slice [],UW,str ⟨#[]⟩,str ⟨#[]⟩]
abbrev P7:ba:=.box [str ⟨#[]⟩,.sc (.slice none 0 0),.ms 10 0 0 1,num 0,.sc (.slice none 0 0),num 0,.cC (.func 140) [] [.ptr 9 0,.ptr 7 0],.cC (.func 141) [] [.ptr 9 0,.ptr 8 0],.sc (.func (.func 139) #[] #[])]
abbrev Dm:ba:=.map [(.string ⟨#[97,47,118,49]⟩,0,bl true),(.string ⟨#[]⟩,1,bl true)] 2
abbrev gx:ba:=.box [num 1,str ⟨#[120]⟩,bl false,bl false,str ⟨#[]⟩,.slice [],num 0,str ⟨#[]⟩,str ⟨#[]⟩,.slice [],.slice [],num 0,str ⟨#[]⟩,str ⟨#[]⟩,.slice [],.slice [],num 2,str ⟨#[]⟩,str ⟨#[]⟩,.slice [],.slice [],num 4,str ⟨#[109,47,118,49]⟩,str ⟨#[118]⟩,str ⟨#[]⟩,num 0,.slice [],.slice [],.slice [],str ⟨#[]⟩,str ⟨#[]⟩]
abbrev P8:ba:=.box [str ⟨#[]⟩,.sc (.slice none 0 0),.ms 11 0 0 1,num 0,.sc (.slice none 0 0),num 0,.cC (.func 140) [] [.ptr 10 0,.ptr 8 0],.cC (.func 141) [] [.ptr 10 0,.ptr 9 0],.sc (.func (.func 139) #[] #[])]
abbrev tl:ba:=.map [(.string ⟨#[97,47,118,49]⟩,0,bl true),(.string ⟨#[]⟩,1,bl true),(.string ⟨#[109,47,118,49]⟩,2,bl true)] 3
abbrev kF:ba:=.box [num 0,str ⟨#[80]⟩,bl false,bl false,str ⟨#[]⟩,JI,num 5,str ⟨#[]⟩,str ⟨#[]⟩,Bz,.slice [],num 5,str ⟨#[]⟩,str ⟨#[]⟩,Bz,.slice [],num 5,str ⟨#[]⟩,str ⟨#[]⟩,Bz,.slice [],num 0,str ⟨#[]⟩,str ⟨#[]⟩,str ⟨#[]⟩,num 0,.slice [],.slice [],.slice [],str ⟨#[]⟩,str ⟨#[]⟩]
abbrev P9:V:=.cC (.func 140) [] [.ptr 11 0,.ptr 9 0]
abbrev Qa:V:=.cC (.func 141) [] [.ptr 11 0,.ptr 10 0]
abbrev Qb:List ba:=[cH,tl,.box [.mp 1],jQ,cT,dc,gx,kF]
abbrev tm:ba:=.box [num 1,str ⟨#[121]⟩,bl false,bl false,str ⟨#[]⟩,.slice [],num 0,str ⟨#[]⟩,str ⟨#[]⟩,.slice [],.slice [],num 0,str ⟨#[]⟩,str ⟨#[]⟩,.slice [],.slice [],num 10,str ⟨#[97,47,118,49]⟩,str ⟨#[78]⟩,.slice [],.slice [],num 4,str ⟨#[97,47,118,49]⟩,str ⟨#[102]⟩,str ⟨#[]⟩,num 0,.slice [],.slice [],.slice [],str ⟨#[]⟩,str ⟨#[]⟩]
abbrev Qc:List ba:=[cH,tl,.box [.mp 1],jQ,cT,dc,gx,kF,tm,tm,.box [.cC (.func 118) [] [.ptr 2 0]],.box [.cC (.func 119) [] [.ptr 2 0]],.box [bl true],.rows 0 31 [F9],.box [str ⟨#[]⟩,.sc (.slice none 0 0),.ms 13 0 0 1,num 0,.sc (.slice none 0 0),num 0,.cC (.func 140) [] [.ptr 12 0,.ptr 10 0],.cC (.func 141) [] [.ptr 12 0,.ptr 11 0],.sc (.func (.func 139) #[] #[])]]
abbrev Qd:List ba:=[cH,tl,.box [.mp 1],jQ,cT,dc,gx,kF,tm]
abbrev Qe:ba:=.map [(.string ⟨#[97,47,118,49]⟩,0,bl true)] 3
abbrev Ip:V:=.agg [str ⟨#[109,47,118,49]⟩,An,tj]
abbrev kG:V:=.slice [.agg [str ⟨#[97,47,118,49]⟩,str ⟨#[109,48]⟩]]
abbrev ic:ba:=.box [str ⟨#[]⟩,.sc (.slice none 0 0),.sc (.slice none 0 0)]
abbrev Qf:ba:=.box [str ⟨#[109,47,118,49]⟩,kG,.sc (.slice none 0 0)]
abbrev iI:ba:=.map [(.string ⟨#[109,47,118,49]⟩,0,str ⟨#[]⟩),(.string ⟨#[97,47,118,49]⟩,1,str ⟨#[109,48]⟩)] 2
abbrev eY:ba:=.box [str ⟨#[97,47,118,49]⟩,str ⟨#[109,48]⟩]
abbrev Qg:ba:=.box [str ⟨#[109,47,118,49]⟩,An,tj,num 0,.sc (.slice none 0 0),num 0,.cC (.func 124) [] [.ptr 5 0],.cC (.func 126) [] [.ptr 5 0],.cC (.func 123) [] [.ptr 5 0]]
abbrev Iq:List ba:=[cH,ic,Qf,cH,iI,.box [.mp 4],eY,Qg]
abbrev Qh:ba:=.box [str ⟨#[109,47,118,49]⟩,kG,.ms 10 0 0 1]
abbrev Qi:ba:=.box [str ⟨#[109,47,118,49]⟩,An,tj,num 1,.sc (.slice none 0 0),num 0,.cC (.func 124) [] [.ptr 5 0],.cC (.func 126) [] [.ptr 5 0],.cC (.func 123) [] [.ptr 5 0]]
abbrev Qj:ba:=.box [str ⟨#[109,47,118,49]⟩,kG,.ms 10 1 0 2]
abbrev ig:V:=.agg [num 1,str ⟨#[120]⟩,bl false,bl false,str ⟨#[]⟩,.slice [],num 0,str ⟨#[]⟩,str ⟨#[]⟩,.slice [],.slice [],num 0,str ⟨#[]⟩,str ⟨#[]⟩,.slice [],.slice [],num 2,str ⟨#[]⟩,str ⟨#[]⟩,.slice [],.slice [],num 3,str ⟨#[]⟩,str ⟨#[118]⟩,str ⟨#[]⟩,num 0,.slice [],.slice [],.slice [],str ⟨#[]⟩,str ⟨#[]⟩]
abbrev Qk:ba:=.box [str ⟨#[109,47,118,49]⟩,An,tj,num 2,.sc (.slice none 0 0),num 0,.cC (.func 124) [] [.ptr 5 0],.cC (.func 126) [] [.ptr 5 0],.cC (.func 123) [] [.ptr 5 0]]
abbrev Ql:ba:=.box [str ⟨#[109,47,118,49]⟩,kG,.ms 10 2 0 3]
abbrev kH:ba:=.box [num 1,str ⟨#[120]⟩,bl false,bl false,str ⟨#[]⟩,.slice [],num 0,str ⟨#[]⟩,str ⟨#[]⟩,.slice [],.slice [],num 0,str ⟨#[]⟩,str ⟨#[]⟩,.slice [],.slice [],num 2,str ⟨#[]⟩,str ⟨#[]⟩,.slice [],.slice [],num 3,str ⟨#[]⟩,str ⟨#[118]⟩,str ⟨#[]⟩,num 0,.slice [],.slice [],.slice [],str ⟨#[]⟩,str ⟨#[]⟩]
abbrev wi:V:=.slice [.agg [num 10,str ⟨#[]⟩,str ⟨#[65]⟩,.slice [],.slice []]]
abbrev jR:V:=.agg [num 0,str ⟨#[80]⟩,bl false,bl false,str ⟨#[]⟩,JI,num 5,str ⟨#[]⟩,str ⟨#[]⟩,wi,.slice [],num 5,str ⟨#[]⟩,str ⟨#[]⟩,wi,.slice [],num 5,str ⟨#[]⟩,str ⟨#[]⟩,wi,.slice [],num 0,str ⟨#[]⟩,str ⟨#[]⟩,str ⟨#[]⟩,num 0,.slice [],.slice [],.slice [],str ⟨#[]⟩,str ⟨#[]⟩]
abbrev Qm:ba:=.box [str ⟨#[109,47,118,49]⟩,An,tj,num 3,.slice [str ⟨#[65]⟩],num 0,.cC (.func 124) [] [.ptr 5 0],.cC (.func 126) [] [.ptr 5 0],.cC (.func 123) [] [.ptr 5 0]]
abbrev Qn:ba:=.box [str ⟨#[109,47,118,49]⟩,kG,.ms 10 3 0 4]
abbrev Qo:ba:=.rows 3 31 [dV,eO,ig,jR]
abbrev lW:ba:=.box [num 0,str ⟨#[80]⟩,bl false,bl false,str ⟨#[]⟩,JI,num 5,str ⟨#[]⟩,str ⟨#[]⟩,wi,.slice [],num 5,str ⟨#[]⟩,str ⟨#[]⟩,wi,.slice [],num 5,str ⟨#[]⟩,str ⟨#[]⟩,wi,.slice [],num 0,str ⟨#[]⟩,str ⟨#[]⟩,str ⟨#[]⟩,num 0,.slice [],.slice [],.slice [],str ⟨#[]⟩,str ⟨#[]⟩]
abbrev lq:V:=.agg [num 1,str ⟨#[121]⟩,bl false,bl false,str ⟨#[]⟩,.slice [],num 0,str ⟨#[]⟩,str ⟨#[]⟩,.slice [],.slice [],num 0,str ⟨#[]⟩,str ⟨#[]⟩,.slice [],.slice [],num 10,str ⟨#[109,48]⟩,str ⟨#[78]⟩,.slice [],.slice [],num 4,str ⟨#[109,48]⟩,str ⟨#[102]⟩,str ⟨#[]⟩,num 0,.slice [],.slice [],.slice [],str ⟨#[]⟩,str ⟨#[]⟩]
abbrev mP:ba:=.box [str ⟨#[109,47,118,49]⟩,An,tj,num 4,.sc (.slice none 0 0),num 0,.cC (.func 124) [] [.ptr 5 0],.cC (.func 126) [] [.ptr 5 0],.cC (.func 123) [] [.ptr 5 0]]
abbrev ij:ba:=.box [str ⟨#[109,47,118,49]⟩,kG,.ms 10 4 0 5]
abbrev nE:ba:=.rows 4 31 [dV,eO,ig,jR,lq]
abbrev nF:ba:=.box [num 1,str ⟨#[121]⟩,bl false,bl false,str ⟨#[]⟩,.slice [],num 0,str ⟨#[]⟩,str ⟨#[]⟩,.slice [],.slice [],num 0,str ⟨#[]⟩,str ⟨#[]⟩,.slice [],.slice [],num 10,str ⟨#[109,48]⟩,str ⟨#[78]⟩,.slice [],.slice [],num 4,str ⟨#[109,48]⟩,str ⟨#[102]⟩,str ⟨#[]⟩,num 0,.slice [],.slice [],.slice [],str ⟨#[]⟩,str ⟨#[]⟩]
abbrev ot:ba:=.map [(.string ⟨#[109,48]⟩,0,str ⟨#[97,47,118,49]⟩)] 1
abbrev Ir:ba:=.box [str ⟨#[109,47,118,49]⟩,kG,.ms 10 4 0 5,num 0,.sc (.slice none 0 0),num 0,.sc (.func (.func 85) #[] #[]),.sc (.func (.func 86) #[] #[]),.cC (.func 83) [] [.ptr 21 0]]
abbrev Qp:List ba:=[cH,ic,ij,cH,iI,.box [.mp 4],eY,mP,cT,.rows 0 31 [dV],nE,dc,.rows 0 31 [eO],kH,.rows 0 31 [ig],lW,.rows 0 31 [jR],nF,.rows 0 31 [lq],ij,ot,.box [.mp 20],eY,Ir,cT]
abbrev Qq:ba:=.box [str ⟨#[109,47,118,49]⟩,kG,.ms 10 4 0 5,num 1,.sc (.slice none 0 0),num 0,.sc (.func (.func 85) #[] #[]),.sc (.func (.func 86) #[] #[]),.cC (.func 83) [] [.ptr 21 0]]
abbrev Qr:ba:=.box [str ⟨#[109,47,118,49]⟩,kG,.ms 10 4 0 5,num 2,.sc (.slice none 0 0),num 0,.sc (.func (.func 85) #[] #[]),.sc (.func (.func 86) #[] #[]),.cC (.func 83) [] [.ptr 21 0]]
abbrev Qs:ba:=.box [str ⟨#[109,47,118,49]⟩,kG,.ms 10 4 0 5,num 3,.slice [str ⟨#[65]⟩],num 0,.sc (.func (.func 85) #[] #[]),.sc (.func (.func 86) #[] #[]),.cC (.func 83) [] [.ptr 21 0]]
theorem aip (hG:a6.g=some 1):dR ab 36 [.ptr 10 0,num 0] P5 (fun r m=>(r,m)∈([(.eC [dV,num 0],P5)]:List (V×List ba))):=eT bo dr (b7 hG) 3000 (by kernel_rfl)
theorem ad3 (hG:a6.g=some 1):dR ab 80 [dV,.cC (.func 118) [] [.ptr 2 0],.cC (.func 119) [] [.ptr 2 0]] P6 (fun r m=>(r,m)∈([(bl true,P6)]:List (V×List ba))):=eT bo (cD (aip hG) dr) (b7 hG) 3000 (by kernel_rfl)
theorem aiq (hG:a6.g=some 1):dR ab 36 [.ptr 11 0,num 0] [cH,Dl,.box [.mp 1],jQ,cT,dc,dc,.box [.cC (.func 118) [] [.ptr 2 0]],.box [.cC (.func 119) [] [.ptr 2 0]],.box [bl true],.rows 0 31 [eO],P7] (fun r m=>(r,m)∈([(.eC [eO,num 0],[cH,Dm,.box [.mp 1],jQ,cT,dc,dc,.box [.cC (.func 118) [] [.ptr 2 0]],.box [.cC (.func 119) [] [.ptr 2 0]],.box [bl true],.rows 0 31 [eO],P7])]:List (V×List ba))):=eT bo dr (b7 hG) 3000 (by kernel_rfl)
theorem ad4 (hG:a6.g=some 1):dR ab 80 [eO,.cC (.func 118) [] [.ptr 2 0],.cC (.func 119) [] [.ptr 2 0]] [cH,Dl,.box [.mp 1],jQ,cT,dc] (fun r m=>(r,m)∈([(bl true,[cH,Dm,.box [.mp 1],jQ,cT,dc])]:List (V×List ba))):=eT bo (cD (aiq hG) dr) (b7 hG) 3000 (by kernel_rfl)
theorem air (hG:a6.g=some 1):dR ab 36 [.ptr 12 0,num 0] [cH,Dm,.box [.mp 1],jQ,cT,dc,gx,gx,.box [.cC (.func 118) [] [.ptr 2 0]],.box [.cC (.func 119) [] [.ptr 2 0]],.box [bl true],.rows 0 31 [n7],P8] (fun r m=>(r,m)∈([(.eC [n7,num 0],[cH,tl,.box [.mp 1],jQ,cT,dc,gx,gx,.box [.cC (.func 118) [] [.ptr 2 0]],.box [.cC (.func 119) [] [.ptr 2 0]],.box [bl true],.rows 0 31 [n7],P8])]:List (V×List ba))):=eT bo dr (b7 hG) 3000 (by kernel_rfl)
theorem ad5 (hG:a6.g=some 1):dR ab 80 [n7,.cC (.func 118) [] [.ptr 2 0],.cC (.func 119) [] [.ptr 2 0]] [cH,Dm,.box [.mp 1],jQ,cT,dc,gx] (fun r m=>(r,m)∈([(bl true,[cH,tl,.box [.mp 1],jQ,cT,dc,gx])]:List (V×List ba))):=eT bo (cD (air hG) dr) (b7 hG) 3000 (by kernel_rfl)
theorem ais (hG:a6.g=some 1):dR ab 36 [.ptr 13 0,num 0] [cH,tl,.box [.mp 1],jQ,cT,dc,gx,kF,kF,.box [.cC (.func 118) [] [.ptr 2 0]],.box [.cC (.func 119) [] [.ptr 2 0]],.box [bl true],.rows 0 31 [sx],.box [str ⟨#[]⟩,.sc (.slice none 0 0),.ms 12 0 0 1,num 0,.sc (.slice none 0 0),num 0,P9,Qa,.sc (.func (.func 139) #[] #[])]] (fun r m=>(r,m)∈([(.eC [sx,num 0],[cH,tl,.box [.mp 1],jQ,cT,dc,gx,kF,kF,.box [.cC (.func 118) [] [.ptr 2 0]],.box [.cC (.func 119) [] [.ptr 2 0]],.box [bl true],.rows 0 31 [sx],.box [str ⟨#[]⟩,.sc (.slice none 0 0),.ms 12 0 0 1,num 0,.slice [str ⟨#[65]⟩],num 0,P9,Qa,.sc (.func (.func 139) #[] #[])]])]:List (V×List ba))):=eT bo dr (b7 hG) 3000 (by kernel_rfl)
theorem ad6 (hG:a6.g=some 1):dR ab 80 [sx,.cC (.func 118) [] [.ptr 2 0],.cC (.func 119) [] [.ptr 2 0]] Qb (fun r m=>(r,m)∈([(bl true,Qb)]:List (V×List ba))):=eT bo (cD (ais hG) dr) (b7 hG) 3000 (by kernel_rfl)
theorem ait (hG:a6.g=some 1):dR ab 36 [.ptr 14 0,num 0] Qc (fun r m=>(r,m)∈([(.eC [F9,num 0],Qc)]:List (V×List ba))):=eT bo dr (b7 hG) 3000 (by kernel_rfl)
theorem ad7 (hG:a6.g=some 1):dR ab 80 [F9,.cC (.func 118) [] [.ptr 2 0],.cC (.func 119) [] [.ptr 2 0]] Qd (fun r m=>(r,m)∈([(bl true,Qd)]:List (V×List ba))):=eT bo (cD (ait hG) dr) (b7 hG) 3000 (by kernel_rfl)
theorem UX (hG:a6.g=some 1):dR ab 121 [.mp 1] [cH,Qe,.box [.mp 1],jQ,cT,dc,gx,kF,tm] (fun r m=>(r,m)∈([(.cC (.func 166) [] [.ptr 9 0],[cH,Qe,.box [.mp 1],jQ,cT,dc,gx,kF,tm,.box [.mp 1]])]:List (V×List ba))):=tZ bo dr (b7 hG) 3000 (by kernel_rfl)
theorem UY (hG:a6.g=some 1):bG ab 122 [num 0] (str ⟨#[48]⟩):=cJ bo (b7 hG) 3000 (by kernel_rfl)
theorem ad8 (hG:a6.g=some 1):bG ab 72 [Ip] kG:=Ev (bA (UY hG) bo) (cD (ad3 hG) (cD (ad4 hG) (cD (ad5 hG) (cD (ad6 hG) (cD (ad7 hG) (cD (UX hG) dr)))))) (b7 hG) 3000 (by kernel_rfl)
theorem ad9 (hG:a6.g=some 1):dR ab 73 [Ip,kG] [cH,ic,Qf] (fun r m=>(r,m)∈([(.ptr 7 0,Iq)]:List (V×List ba))):=tZ bo dr (b7 hG) 3000 (by kernel_rfl)
theorem aea (hG:a6.g=some 1):dR ab 36 [.ptr 7 0,num 0] Iq (fun r m=>(r,m)∈([(.eC [dV,num 0],Iq)]:List (V×List ba))):=eT bo dr (b7 hG) 3000 (by kernel_rfl)
theorem aeb (hG:a6.g=some 1):dR ab 36 [.ptr 7 0,num 1] [cH,ic,Qh,cH,iI,.box [.mp 4],eY,Qg,cT,.rows 0 31 [dV],.rows 0 31 [dV]] (fun r m=>(r,m)∈([(.eC [eO,num 0],[cH,ic,Qh,cH,iI,.box [.mp 4],eY,Qi,cT,.rows 0 31 [dV],.rows 0 31 [dV]])]:List (V×List ba))):=eT bo dr (b7 hG) 3000 (by kernel_rfl)
theorem aec (hG:a6.g=some 1):dR ab 36 [.ptr 7 0,num 2] [cH,ic,Qj,cH,iI,.box [.mp 4],eY,Qi,cT,.rows 0 31 [dV],.rows 1 31 [dV,eO],dc,.rows 0 31 [eO]] (fun r m=>(r,m)∈([(.eC [ig,num 0],[cH,ic,Qj,cH,iI,.box [.mp 4],eY,Qk,cT,.rows 0 31 [dV],.rows 1 31 [dV,eO],dc,.rows 0 31 [eO]])]:List (V×List ba))):=eT bo dr (b7 hG) 3000 (by kernel_rfl)
theorem aed (hG:a6.g=some 1):dR ab 36 [.ptr 7 0,num 3] [cH,ic,Ql,cH,iI,.box [.mp 4],eY,Qk,cT,.rows 0 31 [dV],.rows 2 31 [dV,eO,ig],dc,.rows 0 31 [eO],kH,.rows 0 31 [ig]] (fun r m=>(r,m)∈([(.eC [jR,num 0],[cH,ic,Ql,cH,iI,.box [.mp 4],eY,Qm,cT,.rows 0 31 [dV],.rows 2 31 [dV,eO,ig],dc,.rows 0 31 [eO],kH,.rows 0 31 [ig]])]:List (V×List ba))):=eT bo dr (b7 hG) 3000 (by kernel_rfl)
theorem aee (hG:a6.g=some 1):dR ab 36 [.ptr 7 0,num 4] [cH,ic,Qn,cH,iI,.box [.mp 4],eY,Qm,cT,.rows 0 31 [dV],Qo,dc,.rows 0 31 [eO],kH,.rows 0 31 [ig],lW,.rows 0 31 [jR]] (fun r m=>(r,m)∈([(.eC [lq,num 0],[cH,ic,Qn,cH,iI,.box [.mp 4],eY,mP,cT,.rows 0 31 [dV],Qo,dc,.rows 0 31 [eO],kH,.rows 0 31 [ig],lW,.rows 0 31 [jR]])]:List (V×List ba))):=eT bo dr (b7 hG) 3000 (by kernel_rfl)
theorem aef (hG:a6.g=some 1):dR ab 35 [.agg [str ⟨#[109,47,118,49]⟩,kG,.ms 10 4 0 5]] [cH,ic,ij,cH,iI,.box [.mp 4],eY,mP,cT,.rows 0 31 [dV],nE,dc,.rows 0 31 [eO],kH,.rows 0 31 [ig],lW,.rows 0 31 [jR],nF,.rows 0 31 [lq]] (fun r m=>(r,m)∈([(.ptr 23 0,[cH,ic,ij,cH,iI,.box [.mp 4],eY,mP,cT,.rows 0 31 [dV],nE,dc,.rows 0 31 [eO],kH,.rows 0 31 [ig],lW,.rows 0 31 [jR],nF,.rows 0 31 [lq],ij,ot,.box [.mp 20],eY,Ir])]:List (V×List ba))):=tZ bo dr (b7 hG) 3000 (by kernel_rfl)
theorem aeg (hG:a6.g=some 1):dR ab 36 [.ptr 23 0,num 0] Qp (fun r m=>(r,m)∈([(.eC [dV,num 0],Qp)]:List (V×List ba))):=eT bo dr (b7 hG) 3000 (by kernel_rfl)
theorem aeh (hG:a6.g=some 1):dR ab 36 [.ptr 23 0,num 1] [cH,ic,ij,cH,iI,.box [.mp 4],eY,mP,cT,.rows 0 31 [dV],nE,dc,.rows 0 31 [eO],kH,.rows 0 31 [ig],lW,.rows 0 31 [jR],nF,.rows 0 31 [lq],ij,ot,.box [.mp 20],eY,Ir,cT,cT,.rows 0 31 [dV],.rows 0 31 [dV],dc] (fun r m=>(r,m)∈([(.eC [eO,num 0],[cH,ic,ij,cH,iI,.box [.mp 4],eY,mP,cT,.rows 0 31 [dV],nE,dc,.rows 0 31 [eO],kH,.rows 0 31 [ig],lW,.rows 0 31 [jR],nF,.rows 0 31 [lq],ij,ot,.box [.mp 20],eY,Qq,cT,cT,.rows 0 31 [dV],.rows 0 31 [dV],dc])]:List (V×List ba))):=eT bo dr (b7 hG) 3000 (by kernel_rfl)
theorem aei (hG:a6.g=some 1):dR ab 36 [.ptr 23 0,num 2] [cH,ic,ij,cH,iI,.box [.mp 4],eY,mP,cT,.rows 0 31 [dV],nE,dc,.rows 0 31 [eO],kH,.rows 0 31 [ig],lW,.rows 0 31 [jR],nF,.rows 0 31 [lq],ij,ot,.box [.mp 20],eY,Qq,cT,cT,.rows 0 31 [dV],.rows 0 31 [dV],dc,dc,.rows 0 31 [eO],.rows 0 31 [eO],gx] (fun r m=>(r,m)∈([(.eC [n7,num 0],[cH,ic,ij,cH,iI,.box [.mp 4],eY,mP,cT,.rows 0 31 [dV],nE,dc,.rows 0 31 [eO],kH,.rows 0 31 [ig],lW,.rows 0 31 [jR],nF,.rows 0 31 [lq],ij,ot,.box [.mp 20],eY,Qr,cT,cT,.rows 0 31 [dV],.rows 0 31 [dV],dc,dc,.rows 0 31 [eO],.rows 0 31 [eO],gx])]:List (V×List ba))):=eT bo dr (b7 hG) 3000 (by kernel_rfl)
theorem aej (hG:a6.g=some 1):dR ab 36 [.ptr 23 0,num 3] [cH,ic,ij,cH,iI,.box [.mp 4],eY,mP,cT,.rows 0 31 [dV],nE,dc,.rows 0 31 [eO],kH,.rows 0 31 [ig],lW,.rows 0 31 [jR],nF,.rows 0 31 [lq],ij,ot,.box [.mp 20],eY,Qr,cT,cT,.rows 0 31 [dV],.rows 0 31 [dV],dc,dc,.rows 0 31 [eO],.rows 0 31 [eO],gx,gx,.rows 0 31 [n7],.rows 0 31 [n7],kF] (fun r m=>(r,m)∈([(.eC [sx,num 0],[cH,ic,ij,cH,iI,.box [.mp 4],eY,mP,cT,.rows 0 31 [dV],nE,dc,.rows 0 31 [eO],kH,.rows 0 31 [ig],lW,.rows 0 31 [jR],nF,.rows 0 31 [lq],ij,ot,.box [.mp 20],eY,Qs,cT,cT,.rows 0 31 [dV],.rows 0 31 [dV],dc,dc,.rows 0 31 [eO],.rows 0 31 [eO],gx,gx,.rows 0 31 [n7],.rows 0 31 [n7],kF])]:List (V×List ba))):=eT bo dr (b7 hG) 3000 (by kernel_rfl)
theorem aek (hG:a6.g=some 1):dR ab 36 [.ptr 23 0,num 4] [cH,ic,ij,cH,iI,.box [.mp 4],eY,mP,cT,.rows 0 31 [dV],nE,dc,.rows 0 31 [eO],kH,.rows 0 31 [ig],lW,.rows 0 31 [jR],nF,.rows 0 31 [lq],ij,ot,.box [.mp 20],eY,Qs,cT,cT,.rows 0 31 [dV],.rows 0 31 [dV],dc,dc,.rows 0 31 [eO],.rows 0 31 [eO],gx,gx,.rows 0 31 [n7],.rows 0 31 [n7],kF,kF,.rows 0 31 [sx],.rows 0 31 [sx],tm] (fun r m=>(r,m)∈([(.eC [F9,num 0],[cH,ic,ij,cH,iI,.box [.mp 4],eY,mP,cT,.rows 0 31 [dV],nE,dc,.rows 0 31 [eO],kH,.rows 0 31 [ig],lW,.rows 0 31 [jR],nF,.rows 0 31 [lq],ij,ot,.box [.mp 20],eY,.box [str ⟨#[109,47,118,49]⟩,kG,.ms 10 4 0 5,num 4,.sc (.slice none 0 0),num 0,.sc (.func (.func 85) #[] #[]),.sc (.func (.func 86) #[] #[]),.cC (.func 83) [] [.ptr 21 0]],cT,cT,.rows 0 31 [dV],.rows 0 31 [dV],dc,dc,.rows 0 31 [eO],.rows 0 31 [eO],gx,gx,.rows 0 31 [n7],.rows 0 31 [n7],kF,kF,.rows 0 31 [sx],.rows 0 31 [sx],tm])]:List (V×List ba))):=eT bo dr (b7 hG) 3000 (by kernel_rfl)
theorem ael (hG:a6.g=some 1):bG ab 27 [Ip] (.eC [.agg [str ⟨#[109,47,118,49]⟩,kG,.slice [dV,eO,ig,jR,lq]],num 0,num 0]):=Ev (bA (Yu hG) (bA (aif hG) (bA (aih hG) (bA (aii hG) (bA (aij hG) (bA (aik hG) (bA (UY hG) (bA (ad8 hG) (bA (ail hG) (bA (aim hG) (bA (ain hG) (bA (aio hG) (bA (ad2 hG) bo))))))))))))) (cD (ad3 hG) (cD (ad4 hG) (cD (ad5 hG) (cD (ad6 hG) (cD (ad7 hG) (cD (UX hG) (cD (ad9 hG) (cD (aea hG) (cD (aeb hG) (cD (aec hG) (cD (aed hG) (cD (aee hG) (cD (aef hG) (cD (aeg hG) (cD (aeh hG) (cD (aei hG) (cD (aej hG) (cD (aek hG) dr)))))))))))))))))) (b7 hG) 3000 (by kernel_rfl)
end Go.Proofs.YtnboooapeopjoaaGreatDoor
end
